/- Part 4 of what txBytes_proved stands on. -/
import Derived.Test.YtcedmbdahbdmaaaZb3
set_option linter.unusedVariables false
set_option maxRecDepth 100000
namespace Go.Proofs.Ytcedmbdahbdmaaa
open Go.RowKit
theorem val_takeD (ds : List Nat) (m : Nat) : val (ds.take (m + 1)) = val (ds.take m) + 65536 ^ m * ds.getD m 0 := by
 by_cases h : m < ds.length
 · exact val_take (getD_at h)
 · rw [List.take_of_length_le (by omega), List.take_of_length_le (by omega), List.getD_eq_getElem?_getD, List.getElem?_eq_none (by omega)]
   simp
theorem ok_take {ds : List Nat} (h : ok16 ds) (m : Nat) : ok16 (ds.take m) := fun d hd => h d (List.mem_of_mem_take hd)
theorem val_take_lt {ds : List Nat} (h : ok16 ds) (m : Nat) : val (ds.take m) < 65536 ^ m := by
 refine Nat.lt_of_lt_of_le (val_lt (ok_take h m)) (Nat.pow_le_pow_right (by decide) ?_)
 rw [List.length_take]
 omega
theorem pw_round {xs ds : List Nat} {x cy d t i : Nat} (hl : xs.length = i) (hv : val xs + 65536 ^ i * cy = val (ds.take i) * x) (hd : ds.getD i 0 = d) (ht : t = cy + d * x) :
   val (xs ++ [t % 65536]) + 65536 ^ (i + 1) * (t / 65536) = val (ds.take (i + 1)) * x := by
 rw [val_snoc, hl, val_takeD, hd, Nat.add_mul, ← hv, Nat.pow_succ]
 generalize 65536 ^ i = B
 have e : B * t = B * (t % 65536) + B * 65536 * (t / 65536) := by rw [Nat.mul_assoc, ← Nat.mul_add, Nat.mod_add_div]
 have e2 : B * t = B * cy + B * d * x := by rw [ht, Nat.mul_add, Nat.mul_assoc]
 omega
theorem pw_in {xs ds : List Nat} {x cy i : Nat} (hv : val xs + 65536 ^ i * cy = val (ds.take i) * x) (hr : val ds * x < 65536 ^ 16) (hl : ds.length ≤ 16) (h : i < ds.length ∨ 0 < cy) : i < 16 := by
 by_cases hi : i < ds.length
 · omega
 · rw [List.take_of_length_le (by omega)] at hv
   have h1 : 65536 ^ i ≤ 65536 ^ i * cy := Nat.le_mul_of_pos_right _ (by omega)
   exact (Nat.pow_lt_pow_iff_right (a := 65536) (by decide)).1 (by omega)
theorem pw_carry {cy d x : Nat} (hx : x < 68719476736) (hc : cy < 137438953472) (hd : d < 65536) : d * x < 4503599627370496 ∧ (cy + d * x) / 65536 < 137438953472 := by
 have h := Nat.mul_le_mul_right x (show d ≤ 65535 by omega)
 omega
theorem pw_room {x m : Nat} (hx : x < 68719476736) (hm : m < 3) : x ^ m * x < 65536 ^ 16 := by
 rw [← Nat.pow_succ]
 refine Nat.lt_of_le_of_lt (Nat.pow_le_pow_left (Nat.le_of_lt hx) (m + 1)) ?_
 exact Nat.lt_of_le_of_lt (Nat.pow_le_pow_right (by decide) (show m + 1 ≤ 3 by omega)) (by decide)
theorem getD_ok {ds : List Nat} (h : ok16 ds) (i : Nat) : ds.getD i 0 < 65536 := by
 by_cases hi : i < ds.length
 · exact h _ (List.mem_of_getElem? (getD_at hi))
 · rw [List.getD_eq_getElem?_getD, List.getElem?_eq_none (by omega)]
   decide
theorem cmp_step {a b : List Nat} {i : Nat} (ha : ok16 a) (hb : ok16 b) : (a.getD i 0 ≠ b.getD i 0 → decide (val (b.take (i + 1)) < val (a.take (i + 1))) = decide (b.getD i 0 < a.getD i 0)) ∧
   (a.getD i 0 = b.getD i 0 → decide (val (b.take (i + 1)) < val (a.take (i + 1))) = decide (val (b.take i) < val (a.take i))) := by
 rw [val_takeD, val_takeD]
 have h1 := val_take_lt ha i
 have h2 := val_take_lt hb i
 generalize val (a.take i) = x at *
 generalize val (b.take i) = y at *
 generalize a.getD i 0 = d
 generalize b.getD i 0 = e
 generalize 65536 ^ i = B at *
 constructor
 · intro h
   rcases Nat.lt_or_gt_of_ne h with h | h
   · have := Nat.mul_le_mul_left B (show d + 1 ≤ e from h)
     rw [Nat.mul_add] at this
     rw [decide_eq_false (by omega), decide_eq_false (by omega)]
   · have := Nat.mul_le_mul_left B (show e + 1 ≤ d from h)
     rw [Nat.mul_add] at this
     rw [decide_eq_true (by omega), decide_eq_true (by omega)]
 · intro h
   subst h
   rw [decide_eq_decide]
   omega
def rootS (p n : Nat) : Nat → Nat
 | 0 => 0
 | j + 1 => if (rootS p n j + 2 ^ (35 - j)) ^ n ≤ p * 65536 ^ (2 * n) then rootS p n j + 2 ^ (35 - j) else rootS p n j
theorem rootS_le (p n : Nat) : ∀ j, j ≤ 36 → rootS p n j + 2 ^ (36 - j) ≤ 68719476736
 | 0, _ => by
   show 0 + 2 ^ 36 ≤ _
   decide
 | j + 1, h => by
   have ih := rootS_le p n j (by omega)
   have e : 2 ^ (36 - j) = 2 ^ (35 - j) + 2 ^ (35 - j) := by
     rw [show 36 - j = (35 - j) + 1 by omega, Nat.pow_succ]
     omega
   have h0 : 0 < 2 ^ (35 - j) := Nat.pow_pos (by decide)
   rw [rootS, show 36 - (j + 1) = 35 - j by omega]
   split <;> omega
theorem rootS_spec (p : Nat) {n : Nat} (h0 : p * 65536 ^ (2 * n) < 68719476736 ^ n) (hn : n ≠ 0) : ∀ j, j ≤ 36 → rootS p n j ^ n ≤ p * 65536 ^ (2 * n) ∧ p * 65536 ^ (2 * n) < (rootS p n j + 2 ^ (36 - j)) ^ n
 | 0, _ => by
   constructor
   · show 0 ^ n ≤ _
     rw [Nat.zero_pow (by omega)]
     exact Nat.zero_le _
   · have e : rootS p n 0 + 2 ^ (36 - 0) = 68719476736 := by
       rw [rootS, Nat.zero_add]
     rw [e]
     exact h0
 | j + 1, h => by
   obtain ⟨h1, h2⟩ := rootS_spec p h0 hn j (by omega)
   have e : 2 ^ (36 - j) = 2 ^ (35 - j) + 2 ^ (35 - j) := by
     rw [show 36 - j = (35 - j) + 1 by omega, Nat.pow_succ]
     omega
   rw [e, ← Nat.add_assoc] at h2
   rw [rootS, show 36 - (j + 1) = 35 - j by omega]
   split
   · exact ⟨by assumption, h2⟩
   · exact ⟨h1, by omega⟩
theorem root_is {p n r : Nat} (hn : n ≠ 0) (h0 : p * 65536 ^ (2 * n) < 68719476736 ^ n) (h1 : r ^ n ≤ p * 65536 ^ (2 * n)) (h2 : p * 65536 ^ (2 * n) < (r + 1) ^ n) : rootS p n 36 = r := by
 obtain ⟨h3, h4⟩ := rootS_spec p h0 hn 36 (Nat.le_refl _)
 rw [show 2 ^ (36 - 36) = 1 from rfl] at h4
 have a := (Nat.pow_lt_pow_iff_left hn).1 (Nat.lt_of_le_of_lt h3 h2)
 have b := (Nat.pow_lt_pow_iff_left hn).1 (Nat.lt_of_le_of_lt h1 h4)
 omega
theorem rootS_room {p n j : Nat} (h : j < 36) : rootS p n j + 2 ^ (35 - j) < 68719476736 := by
 have h1 := rootS_le p n j (by omega)
 have e : 2 ^ (36 - j) = 2 ^ (35 - j) + 2 ^ (35 - j) := by
   rw [show 36 - j = (35 - j) + 1 by omega, Nat.pow_succ]
   omega
 have : 0 < 2 ^ (35 - j) := Nat.pow_pos (by decide)
 omega
theorem run_shl1 {P : Program} {t : TypeId} {k' : IntKind} {r : Nat} (hr : r < 64) (w : World) : (binOp .shl t (.int .u64 1) (.int k' (r : Int))).run P w = .ok (.int .u64 ((2 ^ r : Nat) : Int)) w := by
 have h := run_shlN (P := P) (t := t) (k' := k') (a := 1) (r := r) (by omega) w
 rw [Nat.one_mul, Nat.mod_eq_of_lt (by simpa [K] using Nat.pow_lt_pow_right (a := 2) (by decide) hr)] at h
 exact h
theorem w_u32 (x : Nat) : IntKind.u32.wrap (x : Int) = ((x % W32 : Nat) : Int) := by
 rw [IntKind.wrap_u32]
 simp only [W32]
 omega
def prF : Nat → List Nat
 | 0 => []
 | k + 1 => if (prF k).all (fun q => decide ((k + 2) % q ≠ 0)) = true then prF k ++ [k + 2] else prF k
theorem prF_mono (k d : Nat) : (prF k).length ≤ (prF (k + d)).length := by
 induction d with
 | zero => exact Nat.le_refl _
 | succ d ih =>
   refine Nat.le_trans ih ?_
   show _ ≤ (prF (k + d + 1)).length
   rw [prF]
   split
   · rw [List.length_append]; omega
   · exact Nat.le_refl _
theorem prF_ge (k : Nat) : ∀ q ∈ prF k, 2 ≤ q := by
 induction k with
 | zero => intro q h; simp [prF] at h
 | succ k ih =>
   intro q h
   rw [prF] at h
   split at h
   · rcases List.mem_append.1 h with h | h
     · exact ih q h
     · rw [List.mem_singleton.1 h]; omega
   · exact ih q h
def PR : List Nat := [2, 3, 5, 7, 11, 13, 17, 19, 23, 29, 31, 37, 41, 43, 47, 53, 59, 61, 67, 71, 73, 79, 83, 89, 97, 101, 103, 107, 109, 113, 127, 131, 137, 139, 149, 151, 157, 163, 167, 173, 179, 181, 191, 193, 197, 199, 211, 223, 227, 229, 233, 239, 241, 251, 257, 263, 269, 271, 277, 281, 283, 293, 307, 311]
theorem prF_all : prF 310 = PR := by kernel_rfl
theorem prF_63 : (prF 309).length = 63 := by kernel_rfl
theorem prF_in {k : Nat} (h : (prF k).length < 64) : k < 310 := by
 by_cases hk : k < 310
 · exact hk
 · have h1 := prF_mono 310 (k - 310)
   rw [show 310 + (k - 310) = k by omega, prF_all] at h1
   have : PR.length = 64 := rfl
   omega
theorem prF_out {k : Nat} (hk : k ≤ 310) (h : ¬ (prF k).length < 64) : k = 310 := by
 by_cases h9 : k ≤ 309
 · have h1 := prF_mono k (309 - k)
   rw [show k + (309 - k) = 309 by omega, prF_63] at h1
   omega
 · omega
theorem all_take {f : Nat → Bool} {l : List Nat} {j d : Nat} (h : l[j]? = some d) : (l.take (j + 1)).all f = ((l.take j).all f && f d) := by
 rw [List.take_add_one, h]
 simp
def R3L : List Nat := [5411319704, 6194414737, 7344290767, 8215976869, 9551921755, 10098905585, 11043570340, 11460697813, 12214315672, 13195500289, 13492127166, 14311783875, 14809980276, 15046980094, 15499789991, 16133124468, 16720292289, 16907126662, 17444216262, 17784676812, 17950125167, 18429019306, 18734950876, 19175934170, 19734090066, 20001703533, 20132865992, 20390182855, 20516441075, 20764397895, 21588763473, 21813078375, 22141143685, 22248366392, 22769593852, 22871018771, 23170020180, 23461497531, 23651862830, 23931792517, 24205322401, 24295138891, 24734567280, 24820601251, 24990902297, 25075189284, 25569408389, 26045227120, 26200031510, 26276752392, 26428864332, 26653801653, 26727943347, 27092625994, 27306805839, 27517677555, 27725365998, 27793908591, 27997534228, 28131656200, 28198240250, 28526537963, 28973835255, 29099129074]
def H0L : List Nat := [0x6a09e667, 0xbb67ae85, 0x3c6ef372, 0xa54ff53a, 0x510e527f, 0x9b05688c, 0x1f83d9ab, 0x5be0cd19]
def R2L : List Nat := [6074000999, 7439101573, 9603838834, 11363415354, 14244795007, 15485724812, 17708603819, 18721328409]
theorem roots3 : ∀ i, i < 64 → PR.getD i 0 * 65536 ^ (2 * 3) < 68719476736 ^ 3 ∧ R3L.getD i 0 ^ 3 ≤ PR.getD i 0 * 65536 ^ (2 * 3) ∧ PR.getD i 0 * 65536 ^ (2 * 3) < (R3L.getD i 0 + 1) ^ 3 ∧ R3L.getD i 0 % W32 = KT.getD i 0 := of_decide_eq_true (by kernel_rfl)
theorem roots2 : ∀ i, i < 8 → PR.getD i 0 * 65536 ^ (2 * 2) < 68719476736 ^ 2 ∧ R2L.getD i 0 ^ 2 ≤ PR.getD i 0 * 65536 ^ (2 * 2) ∧ PR.getD i 0 * 65536 ^ (2 * 2) < (R2L.getD i 0 + 1) ^ 2 ∧ R2L.getD i 0 % W32 = H0L.getD i 0 := of_decide_eq_true (by kernel_rfl)
theorem root3_at {i : Nat} (h : i < 64) : rootS (PR.getD i 0) 3 36 % W32 = KT.getD i 0 := by
 obtain ⟨h0, h1, h2, h3⟩ := roots3 i h
 rw [root_is (by decide) h0 h1 h2, h3]
theorem root2_at {i : Nat} (h : i < 8) : rootS (PR.getD i 0) 2 36 % W32 = H0L.getD i 0 := by
 obtain ⟨h0, h1, h2, h3⟩ := roots2 i h
 rw [root_is (by decide) h0 h1 h2, h3]
theorem PR_lt (i : Nat) : PR.getD i 0 < 65536 := getD_ok (by unfold PR ok16; decide) i
theorem Digit_calls (ds : List Nat) (i n : Nat) (A : Option Addr) (c : Nat) (w : World) (hr : RdS w A (dg ds)) (hn : n = ds.length) : Calls Try.prog 77 #[.slice A n c, .int .i64 (i : Int)] w fun e w' => e = .returned (.int .u64 ((ds.getD i 0 : Nat) : Int)) ∧ Hp w [] [] w' := by
 subst hn
 refine calls_G (args := [.slice A ds.length c, vi i]) Try.func77 rfl Try.ntmps77 rfl ?_
 intro Q0 hRet hNor hPan
 have H := Hp.start w
 refine G.sr fun K1 hK2 => ?_
 refine GL.r 1 1 [(0, .slice A ds.length c), (1, vi i)] ?_
 refine GL.q hK2 ?_
 refine G.seqK fun K3 hK4 => ?_
 refine G.sr fun K5 hK6 => ?_
 refine GL.r 4 4 [(0, .slice A ds.length c), (1, vi i), (8, .bool (decide ((i : Int) < (ds.length : Int))))] ?_
 refine GL.q hK6 ?_
 cases hb7 : (decide ((i : Int) < (ds.length : Int)))
 · skip
   have hb7f := of_decide_eq_false hb7
   refine G.no rfl ?_
   refine G.skipK hK4 (fun _ _ h => h) ?_
   refine G.sr fun K8 hK9 => ?_
   refine GL.r 1 1 [(4, lu 0)] ?_
   refine GL.q hK9 ?_
   refine G.ret fun F_ hF_ hM_ => hRet _ _ (bodyPost_1 rfl (RV.tmp rfl) ?_ F_ hF_ hM_)
   rw [show ds.getD i 0 = 0 by rw [List.getD_eq_getElem?_getD, List.getElem?_eq_none (by omega)]; rfl]
   exact ⟨rfl, H.sub (List.nil_sublist _)⟩
 · skip
   have hb7f := of_decide_eq_true hb7
   refine G.yes rfl ?_
   refine G.sr fun K10 hK11 => ?_
   refine GL.r 2 2 [(9, .slice A ds.length c), (10, vi i)] ?_
   refine GL.s 3 (run_idxRd (P := Try.prog) (k := .i64) (t := 121) (A := A) (len := ds.length) (cap := c) (j := i) (by kernel_rfl) rfl (hr.hp H) (by first | exact dg_length _ | rw [dg_length]; first | rfl | assumption | (symm; assumption) | (simp; done) | (rw [List.length_take]; omega) | omega) (by first | rfl | omega | (simp only [List.length_cons, List.length_nil, List.length_drop, List.length_take, List.length_append] <;> omega))) [(11, .pointer (Option.map (fun x => Addr.add x i) A))] ?_
   refine GL.s 4 (run_ldRd (P := Try.prog) (ty := 31) (A := A) (j := i) (v := vu (ds.getD i 0)) (by kernel_rfl) (hr.hp H) (dg_at (getD_at (by omega)))) [(12, vu (ds.getD i 0))] ?_
   refine GL.r 5 1 [(4, vu (ds.getD i 0))] ?_
   refine GL.q hK11 ?_
   refine G.ret fun F_ hF_ hM_ => hRet _ _ (bodyPost_1 rfl (RV.tmp rfl) ?_ F_ hF_ hM_)
   exact ⟨rfl, H.sub (List.nil_sublist _)⟩
theorem Power_calls (x n : Nat) (hx : x < 68719476736) (hn : n ≤ 3) (w : World) : Calls Try.prog 76 #[.int .u64 (x : Int), .int .i64 (n : Int)] w fun e w' => ∃ ds A c, e = .returned (.slice A ds.length c) ∧ Hp w [] [.row A ds.length c 31 1 (dg ds)] w' ∧ ok16 ds ∧ ds.length ≤ 16 ∧ val ds = x ^ n := by
 have hMX : MX = 4611686018427387904 := rfl
 have hK0 : K = 18446744073709551616 := rfl
 have hK40 : K4 = 115792089237316195423570985008687907853269984665640564039457584007913129639936 := rfl
 refine calls_G (args := [vu x, vi n]) Try.func76 rfl Try.ntmps76 rfl ?_
 intro Q0 hRet hNor hPan
 have H := Hp.start w
 refine G.sr fun K1 hK2 => ?_
 refine GL.r 1 1 [(0, vu x), (1, vi n)] ?_
 refine GL.q hK2 ?_
 refine G.sr fun K3 hK4 => ?_
 obtain ⟨p5, w6, r7, H8⟩ := H.madeRow (P := Try.prog) (Instr.buildSlice 121 1 #[(0, lu 1)]) (fun b_ => .slice (some ⟨b_, 0, none⟩) 1 1) [lu 1] 31 1 1 1 (by kernel_rfl) (by decide) (by decide) rfl
 refine GL.s 1 (r7) [(0, vu x), (1, vi n), (9, .slice (some ⟨p5, 0, none⟩) 1 1)] ?_
 refine GL.r 2 1 [(0, vu x), (1, vi n), (5, .slice (some ⟨p5, 0, none⟩) 1 1)] ?_
 refine GL.q hK4 ?_
 refine G.seqK fun K9 hK10 => ?_
 refine G.block ?_
 have H11 : Hp w [] [.row (some ⟨p5, 0, none⟩) ([1].length) 1 31 1 (dg [1])] w6 := H8
 refine G.fit [0, 1, 5] (M' := [(0, vu x), (1, vi n), (5, .slice (some ⟨p5, 0, none⟩) ([1].length) 1)]) (by kernel_rfl) ?_
 refine G.eq (M' := [(0, vu x), (1, vi (n - 0)), (5, .slice (some ⟨p5, 0, none⟩) ([1].length) 1)]) (by rfl) ?_
 refine G.loop (X := Nat × List Nat × Option Addr × Nat) (fun ⟨m, ds, A_, c_⟩ => [(0, vu x), (1, vi (n - m)), (5, .slice A_ ds.length c_)]) (fun ⟨m, ds, A_, c_⟩ w_ => (m ≤ n ∧ ok16 ds ∧ ds.length ≤ 16 ∧ val ds = x ^ m) ∧ Hp w [] [.row A_ ds.length c_ 31 1 (dg ds)] w_) (fun ⟨m, ds, A_, c_⟩ => n - m) ⟨0, [1], (some ⟨p5, 0, none⟩), 1⟩ [0, 1, 5] (by kernel_rfl) ⟨⟨Nat.zero_le _, by intro d hd; rw [List.mem_singleton.1 hd]; decide, by decide, rfl⟩, H11⟩ ?_
 rintro ⟨m, ds, A_, c_⟩ w12 ⟨hi13, H14⟩
 refine G.eq (M' := [(0, vu x), (1, vi (n - m)), (5, .slice A_ ds.length c_)]) rfl ?_
 obtain ⟨hmn, hdok, hdl, hdv⟩ := hi13
 refine G.seqK fun K15 hK16 => ?_
 refine G.sr fun K17 hK18 => ?_
 refine GL.r 2 2 [(0, vu x), (1, vi (n - m)), (5, .slice A_ ds.length c_), (11, .bool (decide (0 < (((n - m) : Nat) : Int))))] ?_
 refine GL.q hK18 ?_
 cases hb19 : (decide (0 < (((n - m) : Nat) : Int)))
 · skip
   have hb19f := of_decide_eq_false hb19
   refine G.no rfl ?_
   refine G.exitK hK10 (fun _ _ h => h) ?_
   refine G.sr fun K20 hK21 => ?_
   refine GL.r 2 2 [(4, .slice A_ ds.length c_)] ?_
   refine GL.q hK21 ?_
   refine G.ret fun F_ hF_ hM_ => hRet _ _ (bodyPost_1 rfl (RV.tmp rfl) ?_ F_ hF_ hM_)
   have hm9 : m = n := by omega
   exact ⟨ds, _, _, rfl, H14, hdok, hdl, by rw [hdv, hm9]⟩
 · skip
   have hb19f := of_decide_eq_true hb19
   refine G.yes rfl ?_
   refine G.skipK hK16 (fun _ _ h => h) ?_
   refine G.seqK fun K22 hK23 => ?_
   refine G.block ?_
   refine G.sr fun K24 hK25 => ?_
   obtain ⟨p26, w27, r28, H29⟩ := H14.madeRow (P := Try.prog) (Instr.buildSlice 121 0 #[]) (fun b_ => .slice (some ⟨b_, 0, none⟩) 0 0) [] 31 0 0 1 (by kernel_rfl) (by decide) (by decide) rfl
   refine GL.s 1 (r28) [(0, vu x), (1, vi (n - m)), (5, .slice A_ ds.length c_), (14, .slice (some ⟨p26, 0, none⟩) 0 0)] ?_
   refine GL.r 2 1 [(0, vu x), (1, vi (n - m)), (5, .slice A_ ds.length c_), (6, .slice (some ⟨p26, 0, none⟩) 0 0)] ?_
   refine GL.q hK25 ?_
   refine G.sr fun K30 hK31 => ?_
   refine GL.r 1 1 [(0, vu x), (1, vi (n - m)), (5, .slice A_ ds.length c_), (6, .slice (some ⟨p26, 0, none⟩) 0 0), (7, lu 0)] ?_
   refine GL.q hK31 ?_
   refine G.seqK fun K32 hK33 => ?_
   refine G.sr fun K34 hK35 => ?_
   refine GL.r 1 1 [(0, vu x), (1, vi (n - m)), (5, .slice A_ ds.length c_), (6, .slice (some ⟨p26, 0, none⟩) 0 0), (7, lu 0), (8, li 0)] ?_
   refine GL.q hK35 ?_
   refine G.block ?_
   have hpr : val ds * x < 65536 ^ 16 := by rw [hdv]; exact pw_room hx (by omega)
   refine G.fit [0, 1, 5, 6, 7, 8] (M' := [(0, vu x), (1, vi (n - m)), (5, .slice A_ ds.length c_), (6, .slice (some ⟨p26, 0, none⟩) 0 0), (7, lu 0), (8, li 0)]) (by kernel_rfl) ?_
   refine G.loop (X := Nat × Nat × List Nat × Option Addr × Nat) (fun ⟨i, cy, xs, X_, d_⟩ => [(0, vu x), (1, vi (n - m)), (5, .slice A_ ds.length c_), (6, .slice X_ i d_), (7, vu cy), (8, vi i)]) (fun ⟨i, cy, xs, X_, d_⟩ w_ => (xs.length = i ∧ ok16 xs ∧ cy < 137438953472 ∧ i ≤ 16 ∧ val xs + 65536 ^ i * cy = val (ds.take i) * x) ∧ Hp w [] [.row A_ ds.length c_ 31 1 (dg ds), .row X_ i d_ 31 1 (dg xs)] w_) (fun ⟨i, cy, xs, X_, d_⟩ => 16 - i) ⟨0, 0, [], (some ⟨p26, 0, none⟩), 0⟩ [0, 1, 5, 6, 7, 8] (by kernel_rfl) ⟨⟨rfl, ok_nil, by decide, by omega, by rw [List.take_zero]; simp [val]⟩, H29⟩ ?_
   rintro ⟨i, cy, xs, X_, d_⟩ w36 ⟨hi37, H38⟩
   refine G.eq (M' := [(0, vu x), (1, vi (n - m)), (5, .slice A_ ds.length c_), (6, .slice X_ i d_), (7, vu cy), (8, vi i)]) rfl ?_
   obtain ⟨hxl, hxok, hcy, hi16, hxv⟩ := hi37
   refine G.seqK fun K39 hK40 => ?_
   refine G.sr fun K41 hK42 => ?_
   refine GL.r 5 5 [(0, vu x), (1, vi (n - m)), (5, .slice A_ ds.length c_), (6, .slice X_ i d_), (7, vu cy), (8, vi i), (19, .bool (decide ((i : Int) < (ds.length : Int))))] ?_
   cases hb43 : (decide ((i : Int) < (ds.length : Int)))
   · skip
     have hb43f := of_decide_eq_false hb43
     refine GL.r 8 3 [(0, vu x), (1, vi (n - m)), (5, .slice A_ ds.length c_), (6, .slice X_ i d_), (7, vu cy), (8, vi i), (22, .bool (decide (0 < (cy : Int))))] ?_
     refine GL.q hK42 ?_
     cases hb44 : (decide (0 < (cy : Int)))
     · skip
       have hb44f := of_decide_eq_false hb44
       have hcy0 : cy = 0 := by omega
       refine G.no rfl ?_
       refine G.exitK hK33 (fun _ _ h => h) ?_
       refine G.region ?_
       refine GL.r 2 2 [(0, vu x), (1, vi (n - m)), (5, .slice X_ i d_)] ?_
       refine GL.q hK23 ?_
       refine G.region ?_
       refine GL.r 3 3 [(0, vu x), (1, li (IntKind.i64.wrap ((((n - m) : Nat) : Int) - 1))), (5, .slice X_ i d_)] ?_
       have e45 : (IntKind.i64.wrap ((((n - m) : Nat) : Int) - 1)) = (((n - m) - 1 : Nat) : Int) := by rw [in_i64 (by omega)]; omega
       rw [e45]
       clear e45
       have H46 : Hp w [] [.row X_ i d_ 31 1 (dg xs)] w36 := H38.sub (List.Sublist.cons _ (List.Sublist.cons_cons _ (List.Sublist.slnil)))
       have hxv2 : val xs = val ds * x := by rw [hcy0, Nat.mul_zero, Nat.add_zero, List.take_of_length_le (by omega)] at hxv; exact hxv
       obtain rfl := hxl
       have H47 : Hp w [] [.row X_ xs.length d_ 31 1 (dg xs)] w36 := H46
       refine GL.fit (ts := [0, 1, 5]) (M' := [(0, vu x), (1, vi ((n - m) - 1)), (5, .slice X_ xs.length d_)]) (by kernel_rfl) ?_
       refine GL.eq (M' := [(0, vu x), (1, vi (n - (m + 1))), (5, .slice X_ xs.length d_)]) (by rw [show n - m - 1 = n - (m + 1) by omega]) ?_
       exact GL.again ⟨(m + 1), xs, X_, d_⟩ [0, 1, 5] rfl (by kernel_rfl) (by show n - (m + 1) < n - m; omega) ⟨⟨by omega, hxok, by omega, by rw [hxv2, hdv, Nat.pow_succ]⟩, H47⟩
     · skip
       have hb44f := of_decide_eq_true hb44
       have hi15 : i < 16 := pw_in hxv hpr hdl (by omega)
       refine G.yes rfl ?_
       refine G.skipK hK40 (fun _ _ h => h) ?_
       refine G.seqK fun K48 hK49 => ?_
       refine G.block ?_
       refine G.seqK fun K50 hK51 => ?_
       refine G.sr fun K52 hK53 => ?_
       refine GL.r 4 4 [(0, vu x), (1, vi (n - m)), (5, .slice A_ ds.length c_), (6, .slice X_ i d_), (7, vu cy), (8, vi i), (28, .bool (decide ((i : Int) < (ds.length : Int))))] ?_
       refine GL.q hK53 ?_
       have hb54 : (decide ((i : Int) < (ds.length : Int))) = false := by assumption
       rw [hb54]
       refine G.no rfl ?_
       refine G.skipK hK51 (fun _ _ h => h) ?_
       refine G.sr fun K55 hK56 => ?_
       refine GL.r 3 3 [(0, vu x), (1, vi (n - m)), (5, .slice A_ ds.length c_), (7, vu cy), (8, vi i), (37, .slice X_ i d_), (39, lu (Int.tmod (cy : Int) 65536))] ?_
       have e57 : (Int.tmod (cy : Int) 65536) = ((cy % 65536 : Nat) : Int) := n_rem _ 65536
       rw [e57]
       clear e57
       obtain ⟨p58, w59, r60, H61⟩ := H38.madeRow (P := Try.prog) (Instr.buildSlice 121 1 #[(0, vu (cy % 65536))]) (fun b_ => .slice (some ⟨b_, 0, none⟩) 1 1) [vu (cy % 65536)] 31 1 1 1 (by kernel_rfl) (by decide) (by decide) rfl
       refine GL.s 4 (r60) [(0, vu x), (1, vi (n - m)), (5, .slice A_ ds.length c_), (7, vu cy), (8, vi i), (37, .slice X_ i d_), (40, .slice (some ⟨p58, 0, none⟩) 1 1)] ?_
       obtain ⟨A62, c63, w64, r65, H66⟩ := H61.append (P := Try.prog) (e := 31) (sz := 1) (by_ := 8) (n := i) (c := d_) (m := 1) (d := 1) (t := 121) (ty := 121) (xs := dg xs) (news := dg [cy % 65536]) 1 rfl (by kernel_rfl) (H61.rdRow 2 rfl) (by simp [dg_length]) (dg_one _) (by omega) (by simp only [maxLen]; omega)
       rw [← dg_append] at H66
       refine GL.s 5 (r65) [(0, vu x), (1, vi (n - m)), (5, .slice A_ ds.length c_), (7, vu cy), (8, vi i), (41, .slice A62 (i + 1) c63)] ?_
       refine GL.r 6 1 [(0, vu x), (1, vi (n - m)), (5, .slice A_ ds.length c_), (6, .slice A62 (i + 1) c63), (7, vu cy), (8, vi i)] ?_
       refine GL.q hK56 ?_
       refine G.region ?_
       refine GL.r 3 3 [(0, vu x), (1, vi (n - m)), (5, .slice A_ ds.length c_), (6, .slice A62 (i + 1) c63), (7, lu (IntKind.u64.wrap (Int.tdiv (cy : Int) 65536))), (8, vi i)] ?_
       have e67 : (IntKind.u64.wrap (Int.tdiv (cy : Int) 65536)) = ((cy / 65536 : Nat) : Int) := n_quo 65536 (by omega)
       rw [e67]
       clear e67
       refine GL.q hK49 ?_
       refine G.region ?_
       refine GL.r 3 3 [(0, vu x), (1, vi (n - m)), (5, .slice A_ ds.length c_), (6, .slice A62 (i + 1) c63), (7, vu (cy / 65536)), (8, li (IntKind.i64.wrap ((i : Int) + 1)))] ?_
       have e68 : (IntKind.i64.wrap ((i : Int) + 1)) = ((i + 1 : Nat) : Int) := by rw [in_i64 (by omega)]; omega
       rw [e68]
       clear e68
       have H69 : Hp w [] [.row A_ ds.length c_ 31 1 (dg ds), .row A62 (i + 1) c63 31 1 (dg (xs ++ [cy % 65536]))] w64 := H66.sub (List.Sublist.cons_cons _ (List.Sublist.cons_cons _ (List.Sublist.cons _ (List.Sublist.slnil))))
       refine GL.fit (ts := [0, 1, 5, 6, 7, 8]) (M' := [(0, vu x), (1, vi (n - m)), (5, .slice A_ ds.length c_), (6, .slice A62 (i + 1) c63), (7, vu (cy / 65536)), (8, vi (i + 1))]) (by kernel_rfl) ?_
       refine GL.eq (M' := [(0, vu x), (1, vi (n - m)), (5, .slice A_ ds.length c_), (6, .slice A62 (i + 1) c63), (7, vu (cy / 65536)), (8, vi (i + 1))]) (by rfl) ?_
       exact GL.again ⟨(i + 1), cy / 65536, (xs ++ [cy % 65536]), A62, c63⟩ [0, 1, 5, 6, 7, 8] rfl (by kernel_rfl) (by show 16 - (i + 1) < 16 - i; omega) ⟨⟨by rw [List.length_append, hxl]; rfl, ok_snoc hxok (Nat.mod_lt _ (by decide)), by omega, by omega, pw_round hxl hxv ((show ds.getD i 0 = 0 by rw [List.getD_eq_getElem?_getD, List.getElem?_eq_none (by omega)]; rfl)) ((by rw [Nat.zero_mul]; rfl))⟩, H69⟩
   · skip
     have hb43f := of_decide_eq_true hb43
     have hi15 : i < 16 := pw_in hxv hpr hdl (by omega)
     refine GL.r 8 3 [(0, vu x), (1, vi (n - m)), (5, .slice A_ ds.length c_), (6, .slice X_ i d_), (7, vu cy), (8, vi i), (22, .bool true)] ?_
     refine GL.q hK42 ?_
     refine G.yes rfl ?_
     refine G.skipK hK40 (fun _ _ h => h) ?_
     refine G.seqK fun K70 hK71 => ?_
     refine G.block ?_
     refine G.seqK fun K72 hK73 => ?_
     refine G.sr fun K74 hK75 => ?_
     refine GL.r 4 4 [(0, vu x), (1, vi (n - m)), (5, .slice A_ ds.length c_), (6, .slice X_ i d_), (7, vu cy), (8, vi i), (28, .bool (decide ((i : Int) < (ds.length : Int))))] ?_
     refine GL.q hK75 ?_
     have hb76 : (decide ((i : Int) < (ds.length : Int))) = true := by assumption
     rw [hb76]
     have hi15 : i < 16 := pw_in hxv hpr hdl (by omega)
     refine G.yes rfl ?_
     refine G.region ?_
     refine GL.r 3 3 [(0, vu x), (1, vi (n - m)), (5, .slice A_ ds.length c_), (6, .slice X_ i d_), (8, vi i), (29, vu cy), (30, .slice A_ ds.length c_), (31, vi i)] ?_
     refine GL.s 4 (run_idxRd (P := Try.prog) (k := .i64) (t := 121) (A := A_) (len := ds.length) (cap := c_) (j := i) (by kernel_rfl) rfl (H38.rdRow 0 rfl) (by first | exact dg_length _ | rw [dg_length]; first | rfl | assumption | (symm; assumption) | (simp; done) | (rw [List.length_take]; omega) | omega) (by first | rfl | omega | (simp only [List.length_cons, List.length_nil, List.length_drop, List.length_take, List.length_append] <;> omega))) [(0, vu x), (1, vi (n - m)), (5, .slice A_ ds.length c_), (6, .slice X_ i d_), (8, vi i), (29, vu cy), (32, .pointer (Option.map (fun x => Addr.add x i) A_))] ?_
     obtain ⟨d77, hd78⟩ : ∃ d : Nat, (ds)[i]? = some d := ⟨_, List.getElem?_eq_getElem (by omega)⟩
     have hpc := pw_carry hx hcy (ok_at hdok hd78)
     refine GL.s 5 (run_ldRd (P := Try.prog) (ty := 31) (A := A_) (j := i) (v := vu d77) (by kernel_rfl) (H38.rdRow 0 rfl) (dg_at hd78)) [(0, vu x), (1, vi (n - m)), (5, .slice A_ ds.length c_), (6, .slice X_ i d_), (8, vi i), (29, vu cy), (33, vu d77)] ?_
     refine GL.r 9 4 [(0, vu x), (1, vi (n - m)), (5, .slice A_ ds.length c_), (6, .slice X_ i d_), (7, lu (IntKind.u64.wrap ((cy : Int) + (IntKind.u64.wrap ((d77 : Int) * (x : Int)))))), (8, vi i)] ?_
     have e79 : (IntKind.u64.wrap ((d77 : Int) * (x : Int))) = ((d77 * x : Nat) : Int) := n_mul' (a := d77) (b := x) (by omega)
     have e80 : (IntKind.u64.wrap ((cy : Int) + ((d77 * x : Nat) : Int))) = ((cy + (d77 * x) : Nat) : Int) := n_add' (a := cy) (b := (d77 * x)) (by omega)
     rw [e79, e80]
     clear e79 e80
     refine GL.q hK73 ?_
     refine G.sr fun K81 hK82 => ?_
     refine GL.r 3 3 [(0, vu x), (1, vi (n - m)), (5, .slice A_ ds.length c_), (7, vu (cy + (d77 * x))), (8, vi i), (37, .slice X_ i d_), (39, lu (Int.tmod ((cy + (d77 * x) : Nat) : Int) 65536))] ?_
     have e83 : (Int.tmod ((cy + (d77 * x) : Nat) : Int) 65536) = (((cy + (d77 * x)) % 65536 : Nat) : Int) := n_rem _ 65536
     rw [e83]
     clear e83
     obtain ⟨p84, w85, r86, H87⟩ := H38.madeRow (P := Try.prog) (Instr.buildSlice 121 1 #[(0, vu ((cy + (d77 * x)) % 65536))]) (fun b_ => .slice (some ⟨b_, 0, none⟩) 1 1) [vu ((cy + (d77 * x)) % 65536)] 31 1 1 1 (by kernel_rfl) (by decide) (by decide) rfl
     refine GL.s 4 (r86) [(0, vu x), (1, vi (n - m)), (5, .slice A_ ds.length c_), (7, vu (cy + (d77 * x))), (8, vi i), (37, .slice X_ i d_), (40, .slice (some ⟨p84, 0, none⟩) 1 1)] ?_
     obtain ⟨A88, c89, w90, r91, H92⟩ := H87.append (P := Try.prog) (e := 31) (sz := 1) (by_ := 8) (n := i) (c := d_) (m := 1) (d := 1) (t := 121) (ty := 121) (xs := dg xs) (news := dg [(cy + (d77 * x)) % 65536]) 1 rfl (by kernel_rfl) (H87.rdRow 2 rfl) (by simp [dg_length]) (dg_one _) (by omega) (by simp only [maxLen]; omega)
     rw [← dg_append] at H92
     refine GL.s 5 (r91) [(0, vu x), (1, vi (n - m)), (5, .slice A_ ds.length c_), (7, vu (cy + (d77 * x))), (8, vi i), (41, .slice A88 (i + 1) c89)] ?_
     refine GL.r 6 1 [(0, vu x), (1, vi (n - m)), (5, .slice A_ ds.length c_), (6, .slice A88 (i + 1) c89), (7, vu (cy + (d77 * x))), (8, vi i)] ?_
     refine GL.q hK82 ?_
     refine G.region ?_
     refine GL.r 3 3 [(0, vu x), (1, vi (n - m)), (5, .slice A_ ds.length c_), (6, .slice A88 (i + 1) c89), (7, lu (IntKind.u64.wrap (Int.tdiv ((cy + (d77 * x) : Nat) : Int) 65536))), (8, vi i)] ?_
     have e93 : (IntKind.u64.wrap (Int.tdiv ((cy + (d77 * x) : Nat) : Int) 65536)) = (((cy + (d77 * x)) / 65536 : Nat) : Int) := n_quo 65536 (by omega)
     rw [e93]
     clear e93
     refine GL.q hK71 ?_
     refine G.region ?_
     refine GL.r 3 3 [(0, vu x), (1, vi (n - m)), (5, .slice A_ ds.length c_), (6, .slice A88 (i + 1) c89), (7, vu ((cy + (d77 * x)) / 65536)), (8, li (IntKind.i64.wrap ((i : Int) + 1)))] ?_
     have e94 : (IntKind.i64.wrap ((i : Int) + 1)) = ((i + 1 : Nat) : Int) := by rw [in_i64 (by omega)]; omega
     rw [e94]
     clear e94
     have H95 : Hp w [] [.row A_ ds.length c_ 31 1 (dg ds), .row A88 (i + 1) c89 31 1 (dg (xs ++ [(cy + (d77 * x)) % 65536]))] w90 := H92.sub (List.Sublist.cons_cons _ (List.Sublist.cons_cons _ (List.Sublist.cons _ (List.Sublist.slnil))))
     refine GL.fit (ts := [0, 1, 5, 6, 7, 8]) (M' := [(0, vu x), (1, vi (n - m)), (5, .slice A_ ds.length c_), (6, .slice A88 (i + 1) c89), (7, vu ((cy + (d77 * x)) / 65536)), (8, vi (i + 1))]) (by kernel_rfl) ?_
     refine GL.eq (M' := [(0, vu x), (1, vi (n - m)), (5, .slice A_ ds.length c_), (6, .slice A88 (i + 1) c89), (7, vu ((cy + (d77 * x)) / 65536)), (8, vi (i + 1))]) (by rfl) ?_
     exact GL.again ⟨(i + 1), (cy + (d77 * x)) / 65536, (xs ++ [(cy + (d77 * x)) % 65536]), A88, c89⟩ [0, 1, 5, 6, 7, 8] rfl (by kernel_rfl) (by show 16 - (i + 1) < 16 - i; omega) ⟨⟨by rw [List.length_append, hxl]; rfl, ok_snoc hxok (Nat.mod_lt _ (by decide)), hpc.2, by omega, pw_round hxl hxv ((by rw [List.getD_eq_getElem?_getD, hd78]; rfl)) (rfl)⟩, H95⟩
theorem Root2_calls (p : Nat) (hp : p < 65536) (w : World) : Calls Try.prog 70 #[.int .u64 (p : Int), .int .i64 2] w fun e w' => e = .returned (.int .u32 ((rootS p 2 36 % W32 : Nat) : Int)) ∧ Hp w [] [] w' := by
 have hMX : MX = 4611686018427387904 := rfl
 have hK0 : K = 18446744073709551616 := rfl
 have hK40 : K4 = 115792089237316195423570985008687907853269984665640564039457584007913129639936 := rfl
 refine calls_G (args := [vu p, li 2]) Try.func70 rfl Try.ntmps70 rfl ?_
 intro Q0 hRet hNor hPan
 have H := Hp.start w
 refine G.sr fun K1 hK2 => ?_
 refine GL.r 1 1 [(0, vu p), (1, li 2)] ?_
 refine GL.q hK2 ?_
 refine G.sr fun K3 hK4 => ?_
 refine GL.r 2 2 [(0, vu p), (1, li 2), (12, li 4)] ?_
 obtain ⟨p5, w6, r7, H8⟩ := H.makeD (P := Try.prog) (t := 121) (e := 31) (n := 4) (kl := .i64) (kc := .i64) (by kernel_rfl) (by omega)
 refine GL.s 3 (r7) [(0, vu p), (1, li 2), (13, .slice (some ⟨p5, 0, none⟩) 4 4)] ?_
 refine GL.r 4 1 [(1, li 2), (13, .slice (some ⟨p5, 0, none⟩) 4 4), (14, vu p)] ?_
 obtain ⟨p9, w10, r11, H12⟩ := H8.madeRow (P := Try.prog) (Instr.buildSlice 121 1 #[(0, vu p)]) (fun b_ => .slice (some ⟨b_, 0, none⟩) 1 1) [vu p] 31 1 1 1 (by kernel_rfl) (by decide) (by decide) rfl
 refine GL.s 5 (r11) [(1, li 2), (13, .slice (some ⟨p5, 0, none⟩) 4 4), (15, .slice (some ⟨p9, 0, none⟩) 1 1)] ?_
 obtain ⟨A13, c14, w15, r16, H17⟩ := H12.append (P := Try.prog) (e := 31) (sz := 1) (by_ := 8) (n := 4) (c := 4) (m := 1) (d := 1) (t := 121) (ty := 121) (xs := dg (List.replicate 4 0)) (news := dg [p]) 0 rfl (by kernel_rfl) (H12.rdRow 1 rfl) (by simp [dg_length]) (dg_one _) (by omega) (by simp only [maxLen]; omega)
 rw [← dg_append] at H17
 refine GL.s 6 (r16) [(1, li 2), (16, .slice A13 (4 + 1) c14)] ?_
 refine GL.r 7 1 [(1, li 2), (5, .slice A13 (4 + 1) c14)] ?_
 refine GL.q hK4 ?_
 refine G.sr fun K18 hK19 => ?_
 refine GL.r 1 1 [(1, li 2), (5, .slice A13 (4 + 1) c14), (6, lu 0)] ?_
 refine GL.q hK19 ?_
 refine G.seqK fun K20 hK21 => ?_
 refine G.sr fun K22 hK23 => ?_
 refine GL.r 1 1 [(1, li 2), (5, .slice A13 (4 + 1) c14), (6, lu 0), (7, li 35)] ?_
 refine GL.q hK23 ?_
 refine G.block ?_
 have hWok : ok16 ((List.replicate 4 0) ++ [p]) := fun d hd => (List.mem_append.1 hd).elim (fun hd => by rw [(List.mem_replicate.1 hd).2]; decide) (fun hd => by rw [List.mem_singleton.1 hd]; exact hp)
 have hWl : ((List.replicate 4 0) ++ [p]).length = 5 := by rw [List.length_append, List.length_replicate]; rfl
 have hWv : val ((List.replicate 4 0) ++ [p]) = p * 65536 ^ (2 * 2) := by rw [val_append, val_zeros, List.length_replicate, Nat.zero_add, Nat.mul_comm]; show (p + 65536 * 0) * _ = _; rw [Nat.mul_zero, Nat.add_zero]
 refine G.fit [1, 5, 6, 7] (M' := [(1, li 2), (5, .slice A13 (4 + 1) c14), (6, lu 0), (7, li 35)]) (by kernel_rfl) ?_
 refine G.eq (M' := [(1, li 2), (5, .slice A13 (4 + 1) c14), (6, lu 0), (7, li (35 - ((0 : Nat) : Int)))]) (by rfl) ?_
 refine G.loop (X := Nat × Nat) (fun ⟨j, x⟩ => [(1, li 2), (5, .slice A13 (4 + 1) c14), (6, vu x), (7, li (35 - (j : Int)))]) (fun ⟨j, x⟩ w_ => (j ≤ 36 ∧ x = rootS p 2 j) ∧ Hp w [] [.row A13 (4 + 1) c14 31 1 (dg ((List.replicate 4 0) ++ [p])), .row (some ⟨p9, 0, none⟩) 1 1 31 1 (dg [p])] w_) (fun ⟨j, x⟩ => 36 - j) ⟨0, 0⟩ [1, 5, 6, 7] (by kernel_rfl) ⟨⟨by omega, rfl⟩, H17⟩ ?_
 rintro ⟨j, x⟩ w24 ⟨hi25, H26⟩
 refine G.eq (M' := [(1, li 2), (5, .slice A13 (4 + 1) c14), (6, vu x), (7, li (35 - (j : Int)))]) rfl ?_
 obtain ⟨hj36, hxj⟩ := hi25
 refine G.seqK fun K27 hK28 => ?_
 refine G.sr fun K29 hK30 => ?_
 refine GL.r 2 2 [(1, li 2), (5, .slice A13 (4 + 1) c14), (6, vu x), (7, li (35 - (j : Int))), (18, .bool (decide (0 ≤ (35 - (j : Int)))))] ?_
 refine GL.q hK30 ?_
 cases hb31 : (decide (0 ≤ (35 - (j : Int))))
 · skip
   have hb31f := of_decide_eq_false hb31
   refine G.no rfl ?_
   refine G.exitK hK21 (fun _ _ h => h) ?_
   refine G.sr fun K32 hK33 => ?_
   refine GL.r 3 3 [(4, lw (IntKind.u32.wrap (x : Int)))] ?_
   have e34 : (IntKind.u32.wrap (x : Int)) = (((x % W32) : Nat) : Int) := w_u32 _
   rw [e34]
   clear e34
   refine GL.q hK33 ?_
   refine G.ret fun F_ hF_ hM_ => hRet _ _ (bodyPost_1 rfl (RV.tmp rfl) ?_ F_ hF_ hM_)
   rw [show rootS p 2 36 = x by rw [hxj, show j = 36 by omega]]
   exact ⟨rfl, H26.sub (List.nil_sublist _)⟩
 · skip
   have hb31f := of_decide_eq_true hb31
   have ei : (35 - (j : Int)) = ((35 - j : Nat) : Int) := by omega
   refine G.eq (M' := [(1, li 2), (5, .slice A13 (4 + 1) c14), (6, vu x), (7, vi (35 - j)), (18, .bool true)]) (by rw [ei]) ?_
   have hroom : x + 2 ^ (35 - j) < 68719476736 := by rw [hxj]; exact rootS_room (by omega)
   have h2p : 2 ^ (35 - j) ≤ 68719476736 := by omega
   refine G.yes rfl ?_
   refine G.skipK hK28 (fun _ _ h => h) ?_
   refine G.seqK fun K35 hK36 => ?_
   refine G.block ?_
   refine G.sr fun K37 hK38 => ?_
   refine GL.r 2 2 [(1, li 2), (5, .slice A13 (4 + 1) c14), (6, vu x), (7, vi (35 - j)), (21, vu x), (22, vi (35 - j))] ?_
   refine GL.s 3 (run_shl1 (P := Try.prog) (k' := .i64) (t := 31) (r := (35 - j)) (by omega) _) [(1, li 2), (5, .slice A13 (4 + 1) c14), (6, vu x), (7, vi (35 - j)), (21, vu x), (23, vu (2 ^ (35 - j)))] ?_
   refine GL.r 5 2 [(1, li 2), (5, .slice A13 (4 + 1) c14), (6, vu x), (7, vi (35 - j)), (24, lu (IntKind.u64.wrap ((x : Int) + (((2 ^ (35 - j)) : Nat) : Int)))), (25, li 2)] ?_
   have e39 : (IntKind.u64.wrap ((x : Int) + (((2 ^ (35 - j)) : Nat) : Int))) = ((x + 2 ^ (35 - j) : Nat) : Int) := n_add' (a := x) (b := 2 ^ (35 - j)) (by omega)
   rw [e39]
   clear e39
   refine GL.call (j := 6) (Power_calls (x + 2 ^ (35 - j)) 2 (by omega) (by omega) w24) (by kernel_rfl) rfl (fun e_ w44 hR => ?_)
   obtain ⟨ds, A40, c41, rfl, H43, hdok, hdl, hdv⟩ := hR
   have H42 : Hp w [] [.row A13 (4 + 1) c14 31 1 (dg ((List.replicate 4 0) ++ [p])), .row (some ⟨p9, 0, none⟩) 1 1 31 1 (dg [p]), .row A40 ds.length c41 31 1 (dg ds)] w44 := H26.callNew H43
   refine ⟨_, rfl, [1, 5, 6, 7, 26], [(1, li 2), (5, .slice A13 (4 + 1) c14), (6, vu x), (7, vi (35 - j)), (26, .slice A40 ds.length c41)], by kernel_rfl, ?_⟩
   refine GL.r 7 1 [(1, li 2), (5, .slice A13 (4 + 1) c14), (6, vu x), (7, vi (35 - j)), (8, .slice A40 ds.length c41)] ?_
   refine GL.q hK38 ?_
   refine G.sr fun K45 hK46 => ?_
   refine GL.r 1 1 [(1, li 2), (5, .slice A13 (4 + 1) c14), (6, vu x), (7, vi (35 - j)), (8, .slice A40 ds.length c41), (9, .bool false)] ?_
   refine GL.q hK46 ?_
   refine G.seqK fun K47 hK48 => ?_
   refine G.sr fun K49 hK50 => ?_
   refine GL.r 1 1 [(1, li 2), (5, .slice A13 (4 + 1) c14), (6, vu x), (7, vi (35 - j)), (8, .slice A40 ds.length c41), (9, .bool false), (10, li 0)] ?_
   refine GL.q hK50 ?_
   refine G.block ?_
   refine G.fit [1, 5, 6, 7, 8, 9, 10] (M' := [(1, li 2), (5, .slice A13 (4 + 1) c14), (6, vu x), (7, vi (35 - j)), (8, .slice A40 ds.length c41), (9, .bool false), (10, li 0)]) (by kernel_rfl) ?_
   refine G.loop (X := Nat × Bool) (fun ⟨i, o⟩ => [(1, li 2), (5, .slice A13 (4 + 1) c14), (6, vu x), (7, vi (35 - j)), (8, .slice A40 ds.length c41), (9, .bool o), (10, vi i)]) (fun ⟨i, o⟩ w_ => (i ≤ 16 ∧ o = decide (val (((List.replicate 4 0) ++ [p]).take i) < val (ds.take i))) ∧ Hp w [] [.row A13 (4 + 1) c14 31 1 (dg ((List.replicate 4 0) ++ [p])), .row (some ⟨p9, 0, none⟩) 1 1 31 1 (dg [p]), .row A40 ds.length c41 31 1 (dg ds)] w_) (fun ⟨i, o⟩ => 16 - i) ⟨0, false⟩ [1, 5, 6, 7, 8, 9, 10] (by kernel_rfl) ⟨⟨by omega, by rw [List.take_zero, List.take_zero]; exact (decide_eq_false (Nat.lt_irrefl _)).symm⟩, H42⟩ ?_
   rintro ⟨i, o⟩ w51 ⟨hi52, H53⟩
   refine G.eq (M' := [(1, li 2), (5, .slice A13 (4 + 1) c14), (6, vu x), (7, vi (35 - j)), (8, .slice A40 ds.length c41), (9, .bool o), (10, vi i)]) rfl ?_
   obtain ⟨hi16, hov⟩ := hi52
   refine G.seqK fun K54 hK55 => ?_
   refine G.sr fun K56 hK57 => ?_
   refine GL.r 2 2 [(1, li 2), (5, .slice A13 (4 + 1) c14), (6, vu x), (7, vi (35 - j)), (8, .slice A40 ds.length c41), (9, .bool o), (10, vi i), (28, .bool (decide ((i : Int) < 16)))] ?_
   refine GL.q hK57 ?_
   cases hb58 : (decide ((i : Int) < 16))
   · skip
     have hb58f := of_decide_eq_false hb58
     refine G.no rfl ?_
     refine G.exitK hK48 (fun _ _ h => h) ?_
     refine G.sr fun K59 hK60 => ?_
     refine GL.r 2 2 [(1, li 2), (5, .slice A13 (4 + 1) c14), (6, vu x), (7, vi (35 - j)), (46, .bool (!o))] ?_
     refine GL.q hK60 ?_
     rcases (Bool.eq_false_or_eq_true o).symm with hb61 | hb61
     · skip
       refine G.eq (M' := [(1, li 2), (5, .slice A13 (4 + 1) c14), (6, vu x), (7, vi (35 - j)), (46, .bool true)]) (by first | (rw [hb61]; done) | (rw [hb61]; rfl)) ?_
       refine G.yes rfl ?_
       refine G.region ?_
       refine GL.r 2 2 [(1, li 2), (5, .slice A13 (4 + 1) c14), (7, vi (35 - j)), (47, vu x), (48, vi (35 - j))] ?_
       refine GL.s 3 (run_shl1 (P := Try.prog) (k' := .i64) (t := 31) (r := (35 - j)) (by omega) _) [(1, li 2), (5, .slice A13 (4 + 1) c14), (7, vi (35 - j)), (47, vu x), (49, vu (2 ^ (35 - j)))] ?_
       refine GL.r 5 2 [(1, li 2), (5, .slice A13 (4 + 1) c14), (6, lu (IntKind.u64.wrap ((x : Int) + (((2 ^ (35 - j)) : Nat) : Int)))), (7, vi (35 - j))] ?_
       have e62 : (IntKind.u64.wrap ((x : Int) + (((2 ^ (35 - j)) : Nat) : Int))) = ((x + 2 ^ (35 - j) : Nat) : Int) := n_add' (a := x) (b := 2 ^ (35 - j)) (by omega)
       rw [e62]
       clear e62
       refine GL.q hK36 ?_
       refine G.region ?_
       refine GL.r 3 3 [(1, li 2), (5, .slice A13 (4 + 1) c14), (6, vu (x + 2 ^ (35 - j))), (7, li (IntKind.i64.wrap ((((35 - j) : Nat) : Int) - 1)))] ?_
       have e63 : (IntKind.i64.wrap ((((35 - j) : Nat) : Int) - 1)) = (34 - (j : Int)) := by rw [in_i64 (by omega)]; omega
       rw [e63]
       clear e63
       have H64 : Hp w [] [.row A13 (4 + 1) c14 31 1 (dg ((List.replicate 4 0) ++ [p])), .row (some ⟨p9, 0, none⟩) 1 1 31 1 (dg [p])] w51 := H53.sub (List.Sublist.cons_cons _ (List.Sublist.cons_cons _ (List.Sublist.cons _ (List.Sublist.slnil))))
       have hcmp : o = decide (p * 65536 ^ (2 * 2) < (x + 2 ^ (35 - j)) ^ 2) := by rw [hov, show i = 16 by omega, List.take_of_length_le (by omega), List.take_of_length_le (by omega), hWv, hdv]
       have hroot : rootS p 2 (j + 1) = (x + 2 ^ (35 - j)) := by rw [rootS, ← hxj, if_pos (by have := of_decide_eq_false (hcmp.symm.trans hb61); omega)]
       refine GL.fit (ts := [1, 5, 6, 7]) (M' := [(1, li 2), (5, .slice A13 (4 + 1) c14), (6, vu (x + 2 ^ (35 - j))), (7, li (34 - (j : Int)))]) (by kernel_rfl) ?_
       refine GL.eq (M' := [(1, li 2), (5, .slice A13 (4 + 1) c14), (6, vu (x + 2 ^ (35 - j))), (7, li (35 - (((j + 1) : Nat) : Int)))]) (by rw [show (34 - (j : Int)) = 35 - ((j + 1 : Nat) : Int) by omega]) ?_
       exact GL.again ⟨(j + 1), (x + 2 ^ (35 - j))⟩ [1, 5, 6, 7] rfl (by kernel_rfl) (by show 36 - (j + 1) < 36 - j; omega) ⟨⟨by omega, hroot.symm⟩, H64⟩
     · skip
       refine G.eq (M' := [(1, li 2), (5, .slice A13 (4 + 1) c14), (6, vu x), (7, vi (35 - j)), (46, .bool false)]) (by first | (rw [hb61]; done) | (rw [hb61]; rfl)) ?_
       refine G.no rfl ?_
       refine G.skipK hK36 (fun _ _ h => h) ?_
       refine G.region ?_
       refine GL.r 3 3 [(1, li 2), (5, .slice A13 (4 + 1) c14), (6, vu x), (7, li (IntKind.i64.wrap ((((35 - j) : Nat) : Int) - 1)))] ?_
       have e65 : (IntKind.i64.wrap ((((35 - j) : Nat) : Int) - 1)) = (34 - (j : Int)) := by rw [in_i64 (by omega)]; omega
       rw [e65]
       clear e65
       have H66 : Hp w [] [.row A13 (4 + 1) c14 31 1 (dg ((List.replicate 4 0) ++ [p])), .row (some ⟨p9, 0, none⟩) 1 1 31 1 (dg [p])] w51 := H53.sub (List.Sublist.cons_cons _ (List.Sublist.cons_cons _ (List.Sublist.cons _ (List.Sublist.slnil))))
       have hcmp : o = decide (p * 65536 ^ (2 * 2) < (x + 2 ^ (35 - j)) ^ 2) := by rw [hov, show i = 16 by omega, List.take_of_length_le (by omega), List.take_of_length_le (by omega), hWv, hdv]
       have hroot : rootS p 2 (j + 1) = x := by rw [rootS, ← hxj, if_neg (by have := of_decide_eq_true (hcmp.symm.trans hb61); omega)]
       refine GL.fit (ts := [1, 5, 6, 7]) (M' := [(1, li 2), (5, .slice A13 (4 + 1) c14), (6, vu x), (7, li (34 - (j : Int)))]) (by kernel_rfl) ?_
       refine GL.eq (M' := [(1, li 2), (5, .slice A13 (4 + 1) c14), (6, vu x), (7, li (35 - (((j + 1) : Nat) : Int)))]) (by rw [show (34 - (j : Int)) = 35 - ((j + 1 : Nat) : Int) by omega]) ?_
       exact GL.again ⟨(j + 1), x⟩ [1, 5, 6, 7] rfl (by kernel_rfl) (by show 36 - (j + 1) < 36 - j; omega) ⟨⟨by omega, hroot.symm⟩, H66⟩
   · skip
     have hb58f := of_decide_eq_true hb58
     refine G.yes rfl ?_
     refine G.skipK hK55 (fun _ _ h => h) ?_
     refine G.seqK fun K67 hK68 => ?_
     refine G.block ?_
     refine G.sr fun K69 hK70 => ?_
     refine GL.r 2 2 [(1, li 2), (5, .slice A13 (4 + 1) c14), (6, vu x), (7, vi (35 - j)), (8, .slice A40 ds.length c41), (9, .bool o), (10, vi i), (31, .slice A40 ds.length c41), (32, vi i)] ?_
     refine GL.call (j := 3) (Digit_calls ds i ds.length A40 c41 w51 (H53.rdRow 2 rfl) (rfl)) (by kernel_rfl) rfl (fun e_ w71 hR => ?_)
     obtain ⟨rfl, H73⟩ := hR
     have H72 : Hp w [] [.row A13 (4 + 1) c14 31 1 (dg ((List.replicate 4 0) ++ [p])), .row (some ⟨p9, 0, none⟩) 1 1 31 1 (dg [p]), .row A40 ds.length c41 31 1 (dg ds)] w71 := H53.callNil H73
     refine ⟨_, rfl, [1, 5, 6, 7, 8, 9, 10, 33], [(1, li 2), (5, .slice A13 (4 + 1) c14), (6, vu x), (7, vi (35 - j)), (8, .slice A40 ds.length c41), (9, .bool o), (10, vi i), (33, vu (ds.getD i 0))], by kernel_rfl, ?_⟩
     refine GL.r 5 2 [(1, li 2), (5, .slice A13 (4 + 1) c14), (6, vu x), (7, vi (35 - j)), (8, .slice A40 ds.length c41), (9, .bool o), (10, vi i), (33, vu (ds.getD i 0)), (34, .slice A13 (4 + 1) c14), (35, vi i)] ?_
     refine GL.call (j := 6) (Digit_calls ((List.replicate 4 0) ++ [p]) i (4 + 1) A13 c14 w71 (H72.rdRow 0 rfl) (by omega)) (by kernel_rfl) rfl (fun e_ w74 hR => ?_)
     obtain ⟨rfl, H76⟩ := hR
     have H75 : Hp w [] [.row A13 (4 + 1) c14 31 1 (dg ((List.replicate 4 0) ++ [p])), .row (some ⟨p9, 0, none⟩) 1 1 31 1 (dg [p]), .row A40 ds.length c41 31 1 (dg ds)] w74 := H72.callNil H76
     refine ⟨_, rfl, [1, 5, 6, 7, 8, 9, 10, 33, 36], [(1, li 2), (5, .slice A13 (4 + 1) c14), (6, vu x), (7, vi (35 - j)), (8, .slice A40 ds.length c41), (9, .bool o), (10, vi i), (33, vu (ds.getD i 0)), (36, vu (((List.replicate 4 0) ++ [p]).getD i 0))], by kernel_rfl, ?_⟩
     refine GL.r 7 1 [(1, li 2), (5, .slice A13 (4 + 1) c14), (6, vu x), (7, vi (35 - j)), (8, .slice A40 ds.length c41), (9, .bool o), (10, vi i), (37, .bool ((((ds.getD i 0) : Nat) : Int) != (((((List.replicate 4 0) ++ [p]).getD i 0) : Nat) : Int)))] ?_
     refine GL.q hK70 ?_
     cases hb77 : ((((ds.getD i 0) : Nat) : Int) != (((((List.replicate 4 0) ++ [p]).getD i 0) : Nat) : Int))
     · skip
       have hb77f : (((ds.getD i 0) : Nat) : Int) = (((((List.replicate 4 0) ++ [p]).getD i 0) : Nat) : Int) := bne_eq_false_iff_eq.1 hb77
       refine G.no rfl ?_
       refine G.skipK hK68 (fun _ _ h => h) ?_
       refine G.region ?_
       refine GL.r 3 3 [(1, li 2), (5, .slice A13 (4 + 1) c14), (6, vu x), (7, vi (35 - j)), (8, .slice A40 ds.length c41), (9, .bool o), (10, li (IntKind.i64.wrap ((i : Int) + 1)))] ?_
       have e78 : (IntKind.i64.wrap ((i : Int) + 1)) = ((i + 1 : Nat) : Int) := by rw [in_i64 (by omega)]; omega
       rw [e78]
       clear e78
       refine GL.fit (ts := [1, 5, 6, 7, 8, 9, 10]) (M' := [(1, li 2), (5, .slice A13 (4 + 1) c14), (6, vu x), (7, vi (35 - j)), (8, .slice A40 ds.length c41), (9, .bool o), (10, vi (i + 1))]) (by kernel_rfl) ?_
       refine GL.eq (M' := [(1, li 2), (5, .slice A13 (4 + 1) c14), (6, vu x), (7, vi (35 - j)), (8, .slice A40 ds.length c41), (9, .bool o), (10, vi (i + 1))]) (by rfl) ?_
       exact GL.again ⟨(i + 1), o⟩ [1, 5, 6, 7, 8, 9, 10] rfl (by kernel_rfl) (by show 16 - (i + 1) < 16 - i; omega) ⟨⟨by omega, by rw [(cmp_step (i := i) hdok hWok).2 (by omega), hov]⟩, H75⟩
     · skip
       have hb77f : (((ds.getD i 0) : Nat) : Int) ≠ (((((List.replicate 4 0) ++ [p]).getD i 0) : Nat) : Int) := bne_iff_ne.1 hb77
       refine G.yes rfl ?_
       refine G.region ?_
       refine GL.r 2 2 [(1, li 2), (5, .slice A13 (4 + 1) c14), (6, vu x), (7, vi (35 - j)), (8, .slice A40 ds.length c41), (10, vi i), (38, .slice A40 ds.length c41), (39, vi i)] ?_
       refine GL.call (j := 3) (Digit_calls ds i ds.length A40 c41 w74 (H75.rdRow 2 rfl) (rfl)) (by kernel_rfl) rfl (fun e_ w79 hR => ?_)
       obtain ⟨rfl, H81⟩ := hR
       have H80 : Hp w [] [.row A13 (4 + 1) c14 31 1 (dg ((List.replicate 4 0) ++ [p])), .row (some ⟨p9, 0, none⟩) 1 1 31 1 (dg [p]), .row A40 ds.length c41 31 1 (dg ds)] w79 := H75.callNil H81
       refine ⟨_, rfl, [1, 5, 6, 7, 8, 10, 40], [(1, li 2), (5, .slice A13 (4 + 1) c14), (6, vu x), (7, vi (35 - j)), (8, .slice A40 ds.length c41), (10, vi i), (40, vu (ds.getD i 0))], by kernel_rfl, ?_⟩
       refine GL.r 5 2 [(1, li 2), (5, .slice A13 (4 + 1) c14), (6, vu x), (7, vi (35 - j)), (8, .slice A40 ds.length c41), (10, vi i), (40, vu (ds.getD i 0)), (41, .slice A13 (4 + 1) c14), (42, vi i)] ?_
       refine GL.call (j := 6) (Digit_calls ((List.replicate 4 0) ++ [p]) i (4 + 1) A13 c14 w79 (H80.rdRow 0 rfl) (by omega)) (by kernel_rfl) rfl (fun e_ w82 hR => ?_)
       obtain ⟨rfl, H84⟩ := hR
       have H83 : Hp w [] [.row A13 (4 + 1) c14 31 1 (dg ((List.replicate 4 0) ++ [p])), .row (some ⟨p9, 0, none⟩) 1 1 31 1 (dg [p]), .row A40 ds.length c41 31 1 (dg ds)] w82 := H80.callNil H84
       refine ⟨_, rfl, [1, 5, 6, 7, 8, 10, 40, 43], [(1, li 2), (5, .slice A13 (4 + 1) c14), (6, vu x), (7, vi (35 - j)), (8, .slice A40 ds.length c41), (10, vi i), (40, vu (ds.getD i 0)), (43, vu (((List.replicate 4 0) ++ [p]).getD i 0))], by kernel_rfl, ?_⟩
       refine GL.r 8 2 [(1, li 2), (5, .slice A13 (4 + 1) c14), (6, vu x), (7, vi (35 - j)), (8, .slice A40 ds.length c41), (9, .bool (decide ((((((List.replicate 4 0) ++ [p]).getD i 0) : Nat) : Int) < (((ds.getD i 0) : Nat) : Int)))), (10, vi i)] ?_
       refine GL.q hK68 ?_
       refine G.region ?_
       refine GL.r 3 3 [(1, li 2), (5, .slice A13 (4 + 1) c14), (6, vu x), (7, vi (35 - j)), (8, .slice A40 ds.length c41), (9, .bool (decide ((((((List.replicate 4 0) ++ [p]).getD i 0) : Nat) : Int) < (((ds.getD i 0) : Nat) : Int)))), (10, li (IntKind.i64.wrap ((i : Int) + 1)))] ?_
       have e85 : (IntKind.i64.wrap ((i : Int) + 1)) = ((i + 1 : Nat) : Int) := by rw [in_i64 (by omega)]; omega
       rw [e85]
       clear e85
       refine GL.fit (ts := [1, 5, 6, 7, 8, 9, 10]) (M' := [(1, li 2), (5, .slice A13 (4 + 1) c14), (6, vu x), (7, vi (35 - j)), (8, .slice A40 ds.length c41), (9, .bool (decide ((((((List.replicate 4 0) ++ [p]).getD i 0) : Nat) : Int) < (((ds.getD i 0) : Nat) : Int)))), (10, vi (i + 1))]) (by kernel_rfl) ?_
       refine GL.eq (M' := [(1, li 2), (5, .slice A13 (4 + 1) c14), (6, vu x), (7, vi (35 - j)), (8, .slice A40 ds.length c41), (9, .bool (decide ((((((List.replicate 4 0) ++ [p]).getD i 0) : Nat) : Int) < (((ds.getD i 0) : Nat) : Int)))), (10, vi (i + 1))]) (by rfl) ?_
       exact GL.again ⟨(i + 1), (decide ((((((List.replicate 4 0) ++ [p]).getD i 0) : Nat) : Int) < (((ds.getD i 0) : Nat) : Int)))⟩ [1, 5, 6, 7, 8, 9, 10] rfl (by kernel_rfl) (by show 16 - (i + 1) < 16 - i; omega) ⟨⟨by omega, by rw [(cmp_step (i := i) hdok hWok).1 (by omega), decide_eq_decide]; omega⟩, H83⟩
theorem Root3_calls (p : Nat) (hp : p < 65536) (w : World) : Calls Try.prog 70 #[.int .u64 (p : Int), .int .i64 3] w fun e w' => e = .returned (.int .u32 ((rootS p 3 36 % W32 : Nat) : Int)) ∧ Hp w [] [] w' := by
 have hMX : MX = 4611686018427387904 := rfl
 have hK0 : K = 18446744073709551616 := rfl
 have hK40 : K4 = 115792089237316195423570985008687907853269984665640564039457584007913129639936 := rfl
 refine calls_G (args := [vu p, li 3]) Try.func70 rfl Try.ntmps70 rfl ?_
 intro Q0 hRet hNor hPan
 have H := Hp.start w
 refine G.sr fun K1 hK2 => ?_
 refine GL.r 1 1 [(0, vu p), (1, li 3)] ?_
 refine GL.q hK2 ?_
 refine G.sr fun K3 hK4 => ?_
 refine GL.r 2 2 [(0, vu p), (1, li 3), (12, li 6)] ?_
 obtain ⟨p5, w6, r7, H8⟩ := H.makeD (P := Try.prog) (t := 121) (e := 31) (n := 6) (kl := .i64) (kc := .i64) (by kernel_rfl) (by omega)
 refine GL.s 3 (r7) [(0, vu p), (1, li 3), (13, .slice (some ⟨p5, 0, none⟩) 6 6)] ?_
 refine GL.r 4 1 [(1, li 3), (13, .slice (some ⟨p5, 0, none⟩) 6 6), (14, vu p)] ?_
 obtain ⟨p9, w10, r11, H12⟩ := H8.madeRow (P := Try.prog) (Instr.buildSlice 121 1 #[(0, vu p)]) (fun b_ => .slice (some ⟨b_, 0, none⟩) 1 1) [vu p] 31 1 1 1 (by kernel_rfl) (by decide) (by decide) rfl
 refine GL.s 5 (r11) [(1, li 3), (13, .slice (some ⟨p5, 0, none⟩) 6 6), (15, .slice (some ⟨p9, 0, none⟩) 1 1)] ?_
 obtain ⟨A13, c14, w15, r16, H17⟩ := H12.append (P := Try.prog) (e := 31) (sz := 1) (by_ := 8) (n := 6) (c := 6) (m := 1) (d := 1) (t := 121) (ty := 121) (xs := dg (List.replicate 6 0)) (news := dg [p]) 0 rfl (by kernel_rfl) (H12.rdRow 1 rfl) (by simp [dg_length]) (dg_one _) (by omega) (by simp only [maxLen]; omega)
 rw [← dg_append] at H17
 refine GL.s 6 (r16) [(1, li 3), (16, .slice A13 (6 + 1) c14)] ?_
 refine GL.r 7 1 [(1, li 3), (5, .slice A13 (6 + 1) c14)] ?_
 refine GL.q hK4 ?_
 refine G.sr fun K18 hK19 => ?_
 refine GL.r 1 1 [(1, li 3), (5, .slice A13 (6 + 1) c14), (6, lu 0)] ?_
 refine GL.q hK19 ?_
 refine G.seqK fun K20 hK21 => ?_
 refine G.sr fun K22 hK23 => ?_
 refine GL.r 1 1 [(1, li 3), (5, .slice A13 (6 + 1) c14), (6, lu 0), (7, li 35)] ?_
 refine GL.q hK23 ?_
 refine G.block ?_
 have hWok : ok16 ((List.replicate 6 0) ++ [p]) := fun d hd => (List.mem_append.1 hd).elim (fun hd => by rw [(List.mem_replicate.1 hd).2]; decide) (fun hd => by rw [List.mem_singleton.1 hd]; exact hp)
 have hWl : ((List.replicate 6 0) ++ [p]).length = 7 := by rw [List.length_append, List.length_replicate]; rfl
 have hWv : val ((List.replicate 6 0) ++ [p]) = p * 65536 ^ (2 * 3) := by rw [val_append, val_zeros, List.length_replicate, Nat.zero_add, Nat.mul_comm]; show (p + 65536 * 0) * _ = _; rw [Nat.mul_zero, Nat.add_zero]
 refine G.fit [1, 5, 6, 7] (M' := [(1, li 3), (5, .slice A13 (6 + 1) c14), (6, lu 0), (7, li 35)]) (by kernel_rfl) ?_
 refine G.eq (M' := [(1, li 3), (5, .slice A13 (6 + 1) c14), (6, lu 0), (7, li (35 - ((0 : Nat) : Int)))]) (by rfl) ?_
 refine G.loop (X := Nat × Nat) (fun ⟨j, x⟩ => [(1, li 3), (5, .slice A13 (6 + 1) c14), (6, vu x), (7, li (35 - (j : Int)))]) (fun ⟨j, x⟩ w_ => (j ≤ 36 ∧ x = rootS p 3 j) ∧ Hp w [] [.row A13 (6 + 1) c14 31 1 (dg ((List.replicate 6 0) ++ [p])), .row (some ⟨p9, 0, none⟩) 1 1 31 1 (dg [p])] w_) (fun ⟨j, x⟩ => 36 - j) ⟨0, 0⟩ [1, 5, 6, 7] (by kernel_rfl) ⟨⟨by omega, rfl⟩, H17⟩ ?_
 rintro ⟨j, x⟩ w24 ⟨hi25, H26⟩
 refine G.eq (M' := [(1, li 3), (5, .slice A13 (6 + 1) c14), (6, vu x), (7, li (35 - (j : Int)))]) rfl ?_
 obtain ⟨hj36, hxj⟩ := hi25
 refine G.seqK fun K27 hK28 => ?_
 refine G.sr fun K29 hK30 => ?_
 refine GL.r 2 2 [(1, li 3), (5, .slice A13 (6 + 1) c14), (6, vu x), (7, li (35 - (j : Int))), (18, .bool (decide (0 ≤ (35 - (j : Int)))))] ?_
 refine GL.q hK30 ?_
 cases hb31 : (decide (0 ≤ (35 - (j : Int))))
 · skip
   have hb31f := of_decide_eq_false hb31
   refine G.no rfl ?_
   refine G.exitK hK21 (fun _ _ h => h) ?_
   refine G.sr fun K32 hK33 => ?_
   refine GL.r 3 3 [(4, lw (IntKind.u32.wrap (x : Int)))] ?_
   have e34 : (IntKind.u32.wrap (x : Int)) = (((x % W32) : Nat) : Int) := w_u32 _
   rw [e34]
   clear e34
   refine GL.q hK33 ?_
   refine G.ret fun F_ hF_ hM_ => hRet _ _ (bodyPost_1 rfl (RV.tmp rfl) ?_ F_ hF_ hM_)
   rw [show rootS p 3 36 = x by rw [hxj, show j = 36 by omega]]
   exact ⟨rfl, H26.sub (List.nil_sublist _)⟩
 · skip
   have hb31f := of_decide_eq_true hb31
   have ei : (35 - (j : Int)) = ((35 - j : Nat) : Int) := by omega
   refine G.eq (M' := [(1, li 3), (5, .slice A13 (6 + 1) c14), (6, vu x), (7, vi (35 - j)), (18, .bool true)]) (by rw [ei]) ?_
   have hroom : x + 2 ^ (35 - j) < 68719476736 := by rw [hxj]; exact rootS_room (by omega)
   have h2p : 2 ^ (35 - j) ≤ 68719476736 := by omega
   refine G.yes rfl ?_
   refine G.skipK hK28 (fun _ _ h => h) ?_
   refine G.seqK fun K35 hK36 => ?_
   refine G.block ?_
   refine G.sr fun K37 hK38 => ?_
   refine GL.r 2 2 [(1, li 3), (5, .slice A13 (6 + 1) c14), (6, vu x), (7, vi (35 - j)), (21, vu x), (22, vi (35 - j))] ?_
   refine GL.s 3 (run_shl1 (P := Try.prog) (k' := .i64) (t := 31) (r := (35 - j)) (by omega) _) [(1, li 3), (5, .slice A13 (6 + 1) c14), (6, vu x), (7, vi (35 - j)), (21, vu x), (23, vu (2 ^ (35 - j)))] ?_
   refine GL.r 5 2 [(1, li 3), (5, .slice A13 (6 + 1) c14), (6, vu x), (7, vi (35 - j)), (24, lu (IntKind.u64.wrap ((x : Int) + (((2 ^ (35 - j)) : Nat) : Int)))), (25, li 3)] ?_
   have e39 : (IntKind.u64.wrap ((x : Int) + (((2 ^ (35 - j)) : Nat) : Int))) = ((x + 2 ^ (35 - j) : Nat) : Int) := n_add' (a := x) (b := 2 ^ (35 - j)) (by omega)
   rw [e39]
   clear e39
   refine GL.call (j := 6) (Power_calls (x + 2 ^ (35 - j)) 3 (by omega) (by omega) w24) (by kernel_rfl) rfl (fun e_ w44 hR => ?_)
   obtain ⟨ds, A40, c41, rfl, H43, hdok, hdl, hdv⟩ := hR
   have H42 : Hp w [] [.row A13 (6 + 1) c14 31 1 (dg ((List.replicate 6 0) ++ [p])), .row (some ⟨p9, 0, none⟩) 1 1 31 1 (dg [p]), .row A40 ds.length c41 31 1 (dg ds)] w44 := H26.callNew H43
   refine ⟨_, rfl, [1, 5, 6, 7, 26], [(1, li 3), (5, .slice A13 (6 + 1) c14), (6, vu x), (7, vi (35 - j)), (26, .slice A40 ds.length c41)], by kernel_rfl, ?_⟩
   refine GL.r 7 1 [(1, li 3), (5, .slice A13 (6 + 1) c14), (6, vu x), (7, vi (35 - j)), (8, .slice A40 ds.length c41)] ?_
   refine GL.q hK38 ?_
   refine G.sr fun K45 hK46 => ?_
   refine GL.r 1 1 [(1, li 3), (5, .slice A13 (6 + 1) c14), (6, vu x), (7, vi (35 - j)), (8, .slice A40 ds.length c41), (9, .bool false)] ?_
   refine GL.q hK46 ?_
   refine G.seqK fun K47 hK48 => ?_
   refine G.sr fun K49 hK50 => ?_
   refine GL.r 1 1 [(1, li 3), (5, .slice A13 (6 + 1) c14), (6, vu x), (7, vi (35 - j)), (8, .slice A40 ds.length c41), (9, .bool false), (10, li 0)] ?_
   refine GL.q hK50 ?_
   refine G.block ?_
   refine G.fit [1, 5, 6, 7, 8, 9, 10] (M' := [(1, li 3), (5, .slice A13 (6 + 1) c14), (6, vu x), (7, vi (35 - j)), (8, .slice A40 ds.length c41), (9, .bool false), (10, li 0)]) (by kernel_rfl) ?_
   refine G.loop (X := Nat × Bool) (fun ⟨i, o⟩ => [(1, li 3), (5, .slice A13 (6 + 1) c14), (6, vu x), (7, vi (35 - j)), (8, .slice A40 ds.length c41), (9, .bool o), (10, vi i)]) (fun ⟨i, o⟩ w_ => (i ≤ 16 ∧ o = decide (val (((List.replicate 6 0) ++ [p]).take i) < val (ds.take i))) ∧ Hp w [] [.row A13 (6 + 1) c14 31 1 (dg ((List.replicate 6 0) ++ [p])), .row (some ⟨p9, 0, none⟩) 1 1 31 1 (dg [p]), .row A40 ds.length c41 31 1 (dg ds)] w_) (fun ⟨i, o⟩ => 16 - i) ⟨0, false⟩ [1, 5, 6, 7, 8, 9, 10] (by kernel_rfl) ⟨⟨by omega, by rw [List.take_zero, List.take_zero]; exact (decide_eq_false (Nat.lt_irrefl _)).symm⟩, H42⟩ ?_
   rintro ⟨i, o⟩ w51 ⟨hi52, H53⟩
   refine G.eq (M' := [(1, li 3), (5, .slice A13 (6 + 1) c14), (6, vu x), (7, vi (35 - j)), (8, .slice A40 ds.length c41), (9, .bool o), (10, vi i)]) rfl ?_
   obtain ⟨hi16, hov⟩ := hi52
   refine G.seqK fun K54 hK55 => ?_
   refine G.sr fun K56 hK57 => ?_
   refine GL.r 2 2 [(1, li 3), (5, .slice A13 (6 + 1) c14), (6, vu x), (7, vi (35 - j)), (8, .slice A40 ds.length c41), (9, .bool o), (10, vi i), (28, .bool (decide ((i : Int) < 16)))] ?_
   refine GL.q hK57 ?_
   cases hb58 : (decide ((i : Int) < 16))
   · skip
     have hb58f := of_decide_eq_false hb58
     refine G.no rfl ?_
     refine G.exitK hK48 (fun _ _ h => h) ?_
     refine G.sr fun K59 hK60 => ?_
     refine GL.r 2 2 [(1, li 3), (5, .slice A13 (6 + 1) c14), (6, vu x), (7, vi (35 - j)), (46, .bool (!o))] ?_
     refine GL.q hK60 ?_
     rcases (Bool.eq_false_or_eq_true o).symm with hb61 | hb61
     · skip
       refine G.eq (M' := [(1, li 3), (5, .slice A13 (6 + 1) c14), (6, vu x), (7, vi (35 - j)), (46, .bool true)]) (by first | (rw [hb61]; done) | (rw [hb61]; rfl)) ?_
       refine G.yes rfl ?_
       refine G.region ?_
       refine GL.r 2 2 [(1, li 3), (5, .slice A13 (6 + 1) c14), (7, vi (35 - j)), (47, vu x), (48, vi (35 - j))] ?_
       refine GL.s 3 (run_shl1 (P := Try.prog) (k' := .i64) (t := 31) (r := (35 - j)) (by omega) _) [(1, li 3), (5, .slice A13 (6 + 1) c14), (7, vi (35 - j)), (47, vu x), (49, vu (2 ^ (35 - j)))] ?_
       refine GL.r 5 2 [(1, li 3), (5, .slice A13 (6 + 1) c14), (6, lu (IntKind.u64.wrap ((x : Int) + (((2 ^ (35 - j)) : Nat) : Int)))), (7, vi (35 - j))] ?_
       have e62 : (IntKind.u64.wrap ((x : Int) + (((2 ^ (35 - j)) : Nat) : Int))) = ((x + 2 ^ (35 - j) : Nat) : Int) := n_add' (a := x) (b := 2 ^ (35 - j)) (by omega)
       rw [e62]
       clear e62
       refine GL.q hK36 ?_
       refine G.region ?_
       refine GL.r 3 3 [(1, li 3), (5, .slice A13 (6 + 1) c14), (6, vu (x + 2 ^ (35 - j))), (7, li (IntKind.i64.wrap ((((35 - j) : Nat) : Int) - 1)))] ?_
       have e63 : (IntKind.i64.wrap ((((35 - j) : Nat) : Int) - 1)) = (34 - (j : Int)) := by rw [in_i64 (by omega)]; omega
       rw [e63]
       clear e63
       have H64 : Hp w [] [.row A13 (6 + 1) c14 31 1 (dg ((List.replicate 6 0) ++ [p])), .row (some ⟨p9, 0, none⟩) 1 1 31 1 (dg [p])] w51 := H53.sub (List.Sublist.cons_cons _ (List.Sublist.cons_cons _ (List.Sublist.cons _ (List.Sublist.slnil))))
       have hcmp : o = decide (p * 65536 ^ (2 * 3) < (x + 2 ^ (35 - j)) ^ 3) := by rw [hov, show i = 16 by omega, List.take_of_length_le (by omega), List.take_of_length_le (by omega), hWv, hdv]
       have hroot : rootS p 3 (j + 1) = (x + 2 ^ (35 - j)) := by rw [rootS, ← hxj, if_pos (by have := of_decide_eq_false (hcmp.symm.trans hb61); omega)]
       refine GL.fit (ts := [1, 5, 6, 7]) (M' := [(1, li 3), (5, .slice A13 (6 + 1) c14), (6, vu (x + 2 ^ (35 - j))), (7, li (34 - (j : Int)))]) (by kernel_rfl) ?_
       refine GL.eq (M' := [(1, li 3), (5, .slice A13 (6 + 1) c14), (6, vu (x + 2 ^ (35 - j))), (7, li (35 - (((j + 1) : Nat) : Int)))]) (by rw [show (34 - (j : Int)) = 35 - ((j + 1 : Nat) : Int) by omega]) ?_
       exact GL.again ⟨(j + 1), (x + 2 ^ (35 - j))⟩ [1, 5, 6, 7] rfl (by kernel_rfl) (by show 36 - (j + 1) < 36 - j; omega) ⟨⟨by omega, hroot.symm⟩, H64⟩
     · skip
       refine G.eq (M' := [(1, li 3), (5, .slice A13 (6 + 1) c14), (6, vu x), (7, vi (35 - j)), (46, .bool false)]) (by first | (rw [hb61]; done) | (rw [hb61]; rfl)) ?_
       refine G.no rfl ?_
       refine G.skipK hK36 (fun _ _ h => h) ?_
       refine G.region ?_
       refine GL.r 3 3 [(1, li 3), (5, .slice A13 (6 + 1) c14), (6, vu x), (7, li (IntKind.i64.wrap ((((35 - j) : Nat) : Int) - 1)))] ?_
       have e65 : (IntKind.i64.wrap ((((35 - j) : Nat) : Int) - 1)) = (34 - (j : Int)) := by rw [in_i64 (by omega)]; omega
       rw [e65]
       clear e65
       have H66 : Hp w [] [.row A13 (6 + 1) c14 31 1 (dg ((List.replicate 6 0) ++ [p])), .row (some ⟨p9, 0, none⟩) 1 1 31 1 (dg [p])] w51 := H53.sub (List.Sublist.cons_cons _ (List.Sublist.cons_cons _ (List.Sublist.cons _ (List.Sublist.slnil))))
       have hcmp : o = decide (p * 65536 ^ (2 * 3) < (x + 2 ^ (35 - j)) ^ 3) := by rw [hov, show i = 16 by omega, List.take_of_length_le (by omega), List.take_of_length_le (by omega), hWv, hdv]
       have hroot : rootS p 3 (j + 1) = x := by rw [rootS, ← hxj, if_neg (by have := of_decide_eq_true (hcmp.symm.trans hb61); omega)]
       refine GL.fit (ts := [1, 5, 6, 7]) (M' := [(1, li 3), (5, .slice A13 (6 + 1) c14), (6, vu x), (7, li (34 - (j : Int)))]) (by kernel_rfl) ?_
       refine GL.eq (M' := [(1, li 3), (5, .slice A13 (6 + 1) c14), (6, vu x), (7, li (35 - (((j + 1) : Nat) : Int)))]) (by rw [show (34 - (j : Int)) = 35 - ((j + 1 : Nat) : Int) by omega]) ?_
       exact GL.again ⟨(j + 1), x⟩ [1, 5, 6, 7] rfl (by kernel_rfl) (by show 36 - (j + 1) < 36 - j; omega) ⟨⟨by omega, hroot.symm⟩, H66⟩
   · skip
     have hb58f := of_decide_eq_true hb58
     refine G.yes rfl ?_
     refine G.skipK hK55 (fun _ _ h => h) ?_
     refine G.seqK fun K67 hK68 => ?_
     refine G.block ?_
     refine G.sr fun K69 hK70 => ?_
     refine GL.r 2 2 [(1, li 3), (5, .slice A13 (6 + 1) c14), (6, vu x), (7, vi (35 - j)), (8, .slice A40 ds.length c41), (9, .bool o), (10, vi i), (31, .slice A40 ds.length c41), (32, vi i)] ?_
     refine GL.call (j := 3) (Digit_calls ds i ds.length A40 c41 w51 (H53.rdRow 2 rfl) (rfl)) (by kernel_rfl) rfl (fun e_ w71 hR => ?_)
     obtain ⟨rfl, H73⟩ := hR
     have H72 : Hp w [] [.row A13 (6 + 1) c14 31 1 (dg ((List.replicate 6 0) ++ [p])), .row (some ⟨p9, 0, none⟩) 1 1 31 1 (dg [p]), .row A40 ds.length c41 31 1 (dg ds)] w71 := H53.callNil H73
     refine ⟨_, rfl, [1, 5, 6, 7, 8, 9, 10, 33], [(1, li 3), (5, .slice A13 (6 + 1) c14), (6, vu x), (7, vi (35 - j)), (8, .slice A40 ds.length c41), (9, .bool o), (10, vi i), (33, vu (ds.getD i 0))], by kernel_rfl, ?_⟩
     refine GL.r 5 2 [(1, li 3), (5, .slice A13 (6 + 1) c14), (6, vu x), (7, vi (35 - j)), (8, .slice A40 ds.length c41), (9, .bool o), (10, vi i), (33, vu (ds.getD i 0)), (34, .slice A13 (6 + 1) c14), (35, vi i)] ?_
     refine GL.call (j := 6) (Digit_calls ((List.replicate 6 0) ++ [p]) i (6 + 1) A13 c14 w71 (H72.rdRow 0 rfl) (by omega)) (by kernel_rfl) rfl (fun e_ w74 hR => ?_)
     obtain ⟨rfl, H76⟩ := hR
     have H75 : Hp w [] [.row A13 (6 + 1) c14 31 1 (dg ((List.replicate 6 0) ++ [p])), .row (some ⟨p9, 0, none⟩) 1 1 31 1 (dg [p]), .row A40 ds.length c41 31 1 (dg ds)] w74 := H72.callNil H76
     refine ⟨_, rfl, [1, 5, 6, 7, 8, 9, 10, 33, 36], [(1, li 3), (5, .slice A13 (6 + 1) c14), (6, vu x), (7, vi (35 - j)), (8, .slice A40 ds.length c41), (9, .bool o), (10, vi i), (33, vu (ds.getD i 0)), (36, vu (((List.replicate 6 0) ++ [p]).getD i 0))], by kernel_rfl, ?_⟩
     refine GL.r 7 1 [(1, li 3), (5, .slice A13 (6 + 1) c14), (6, vu x), (7, vi (35 - j)), (8, .slice A40 ds.length c41), (9, .bool o), (10, vi i), (37, .bool ((((ds.getD i 0) : Nat) : Int) != (((((List.replicate 6 0) ++ [p]).getD i 0) : Nat) : Int)))] ?_
     refine GL.q hK70 ?_
     cases hb77 : ((((ds.getD i 0) : Nat) : Int) != (((((List.replicate 6 0) ++ [p]).getD i 0) : Nat) : Int))
     · skip
       have hb77f : (((ds.getD i 0) : Nat) : Int) = (((((List.replicate 6 0) ++ [p]).getD i 0) : Nat) : Int) := bne_eq_false_iff_eq.1 hb77
       refine G.no rfl ?_
       refine G.skipK hK68 (fun _ _ h => h) ?_
       refine G.region ?_
       refine GL.r 3 3 [(1, li 3), (5, .slice A13 (6 + 1) c14), (6, vu x), (7, vi (35 - j)), (8, .slice A40 ds.length c41), (9, .bool o), (10, li (IntKind.i64.wrap ((i : Int) + 1)))] ?_
       have e78 : (IntKind.i64.wrap ((i : Int) + 1)) = ((i + 1 : Nat) : Int) := by rw [in_i64 (by omega)]; omega
       rw [e78]
       clear e78
       refine GL.fit (ts := [1, 5, 6, 7, 8, 9, 10]) (M' := [(1, li 3), (5, .slice A13 (6 + 1) c14), (6, vu x), (7, vi (35 - j)), (8, .slice A40 ds.length c41), (9, .bool o), (10, vi (i + 1))]) (by kernel_rfl) ?_
       refine GL.eq (M' := [(1, li 3), (5, .slice A13 (6 + 1) c14), (6, vu x), (7, vi (35 - j)), (8, .slice A40 ds.length c41), (9, .bool o), (10, vi (i + 1))]) (by rfl) ?_
       exact GL.again ⟨(i + 1), o⟩ [1, 5, 6, 7, 8, 9, 10] rfl (by kernel_rfl) (by show 16 - (i + 1) < 16 - i; omega) ⟨⟨by omega, by rw [(cmp_step (i := i) hdok hWok).2 (by omega), hov]⟩, H75⟩
     · skip
       have hb77f : (((ds.getD i 0) : Nat) : Int) ≠ (((((List.replicate 6 0) ++ [p]).getD i 0) : Nat) : Int) := bne_iff_ne.1 hb77
       refine G.yes rfl ?_
       refine G.region ?_
       refine GL.r 2 2 [(1, li 3), (5, .slice A13 (6 + 1) c14), (6, vu x), (7, vi (35 - j)), (8, .slice A40 ds.length c41), (10, vi i), (38, .slice A40 ds.length c41), (39, vi i)] ?_
       refine GL.call (j := 3) (Digit_calls ds i ds.length A40 c41 w74 (H75.rdRow 2 rfl) (rfl)) (by kernel_rfl) rfl (fun e_ w79 hR => ?_)
       obtain ⟨rfl, H81⟩ := hR
       have H80 : Hp w [] [.row A13 (6 + 1) c14 31 1 (dg ((List.replicate 6 0) ++ [p])), .row (some ⟨p9, 0, none⟩) 1 1 31 1 (dg [p]), .row A40 ds.length c41 31 1 (dg ds)] w79 := H75.callNil H81
       refine ⟨_, rfl, [1, 5, 6, 7, 8, 10, 40], [(1, li 3), (5, .slice A13 (6 + 1) c14), (6, vu x), (7, vi (35 - j)), (8, .slice A40 ds.length c41), (10, vi i), (40, vu (ds.getD i 0))], by kernel_rfl, ?_⟩
       refine GL.r 5 2 [(1, li 3), (5, .slice A13 (6 + 1) c14), (6, vu x), (7, vi (35 - j)), (8, .slice A40 ds.length c41), (10, vi i), (40, vu (ds.getD i 0)), (41, .slice A13 (6 + 1) c14), (42, vi i)] ?_
       refine GL.call (j := 6) (Digit_calls ((List.replicate 6 0) ++ [p]) i (6 + 1) A13 c14 w79 (H80.rdRow 0 rfl) (by omega)) (by kernel_rfl) rfl (fun e_ w82 hR => ?_)
       obtain ⟨rfl, H84⟩ := hR
       have H83 : Hp w [] [.row A13 (6 + 1) c14 31 1 (dg ((List.replicate 6 0) ++ [p])), .row (some ⟨p9, 0, none⟩) 1 1 31 1 (dg [p]), .row A40 ds.length c41 31 1 (dg ds)] w82 := H80.callNil H84
       refine ⟨_, rfl, [1, 5, 6, 7, 8, 10, 40, 43], [(1, li 3), (5, .slice A13 (6 + 1) c14), (6, vu x), (7, vi (35 - j)), (8, .slice A40 ds.length c41), (10, vi i), (40, vu (ds.getD i 0)), (43, vu (((List.replicate 6 0) ++ [p]).getD i 0))], by kernel_rfl, ?_⟩
       refine GL.r 8 2 [(1, li 3), (5, .slice A13 (6 + 1) c14), (6, vu x), (7, vi (35 - j)), (8, .slice A40 ds.length c41), (9, .bool (decide ((((((List.replicate 6 0) ++ [p]).getD i 0) : Nat) : Int) < (((ds.getD i 0) : Nat) : Int)))), (10, vi i)] ?_
       refine GL.q hK68 ?_
       refine G.region ?_
       refine GL.r 3 3 [(1, li 3), (5, .slice A13 (6 + 1) c14), (6, vu x), (7, vi (35 - j)), (8, .slice A40 ds.length c41), (9, .bool (decide ((((((List.replicate 6 0) ++ [p]).getD i 0) : Nat) : Int) < (((ds.getD i 0) : Nat) : Int)))), (10, li (IntKind.i64.wrap ((i : Int) + 1)))] ?_
       have e85 : (IntKind.i64.wrap ((i : Int) + 1)) = ((i + 1 : Nat) : Int) := by rw [in_i64 (by omega)]; omega
       rw [e85]
       clear e85
       refine GL.fit (ts := [1, 5, 6, 7, 8, 9, 10]) (M' := [(1, li 3), (5, .slice A13 (6 + 1) c14), (6, vu x), (7, vi (35 - j)), (8, .slice A40 ds.length c41), (9, .bool (decide ((((((List.replicate 6 0) ++ [p]).getD i 0) : Nat) : Int) < (((ds.getD i 0) : Nat) : Int)))), (10, vi (i + 1))]) (by kernel_rfl) ?_
       refine GL.eq (M' := [(1, li 3), (5, .slice A13 (6 + 1) c14), (6, vu x), (7, vi (35 - j)), (8, .slice A40 ds.length c41), (9, .bool (decide ((((((List.replicate 6 0) ++ [p]).getD i 0) : Nat) : Int) < (((ds.getD i 0) : Nat) : Int)))), (10, vi (i + 1))]) (by rfl) ?_
       exact GL.again ⟨(i + 1), (decide ((((((List.replicate 6 0) ++ [p]).getD i 0) : Nat) : Int) < (((ds.getD i 0) : Nat) : Int)))⟩ [1, 5, 6, 7, 8, 9, 10] rfl (by kernel_rfl) (by show 16 - (i + 1) < 16 - i; omega) ⟨⟨by omega, by rw [(cmp_step (i := i) hdok hWok).1 (by omega), decide_eq_decide]; omega⟩, H83⟩
theorem Primes_calls (w : World) : Calls Try.prog 69 #[.int .i64 64] w fun e w' => ∃ A c, e = .returned (.slice A 64 c) ∧ Hp w [] [.row A 64 c 31 1 (dg PR)] w' := by
 have hMX : MX = 4611686018427387904 := rfl
 have hK0 : K = 18446744073709551616 := rfl
 have hK40 : K4 = 115792089237316195423570985008687907853269984665640564039457584007913129639936 := rfl
 refine calls_G (args := [li 64]) Try.func69 rfl Try.ntmps69 rfl ?_
 intro Q0 hRet hNor hPan
 have H := Hp.start w
 refine G.sr fun K1 hK2 => ?_
 refine GL.r 1 1 [(0, li 64)] ?_
 refine GL.q hK2 ?_
 refine G.sr fun K3 hK4 => ?_
 obtain ⟨p5, w6, r7, H8⟩ := H.madeRow (P := Try.prog) (Instr.buildSlice 121 0 #[]) (fun b_ => .slice (some ⟨b_, 0, none⟩) 0 0) [] 31 0 0 1 (by kernel_rfl) (by decide) (by decide) rfl
 refine GL.s 1 (r7) [(0, li 64), (8, .slice (some ⟨p5, 0, none⟩) 0 0)] ?_
 refine GL.r 2 1 [(0, li 64), (3, .slice (some ⟨p5, 0, none⟩) 0 0)] ?_
 refine GL.q hK4 ?_
 refine G.seqK fun K9 hK10 => ?_
 refine G.sr fun K11 hK12 => ?_
 refine GL.r 1 1 [(0, li 64), (3, .slice (some ⟨p5, 0, none⟩) 0 0), (4, lu 2)] ?_
 refine GL.q hK12 ?_
 refine G.block ?_
 have H13 : Hp w [] [.row (some ⟨p5, 0, none⟩) ((prF 0).length) 0 31 1 (dg (prF 0))] w6 := H8
 refine G.fit [0, 3, 4] (M' := [(0, li 64), (3, .slice (some ⟨p5, 0, none⟩) ((prF 0).length) 0), (4, lu 2)]) (by kernel_rfl) ?_
 refine G.eq (M' := [(0, li 64), (3, .slice (some ⟨p5, 0, none⟩) ((prF 0).length) 0), (4, vu (0 + 2))]) (by rfl) ?_
 refine G.loop (X := Nat × Option Addr × Nat) (fun ⟨k, A_, c_⟩ => [(0, li 64), (3, .slice A_ ((prF k).length) c_), (4, vu (k + 2))]) (fun ⟨k, A_, c_⟩ w_ => (k ≤ 310) ∧ Hp w [] [.row A_ ((prF k).length) c_ 31 1 (dg (prF k))] w_) (fun ⟨k, A_, c_⟩ => 310 - k) ⟨0, (some ⟨p5, 0, none⟩), 0⟩ [0, 3, 4] (by kernel_rfl) ⟨by omega, H13⟩ ?_
 rintro ⟨k, A_, c_⟩ w14 ⟨hi15, H16⟩
 refine G.eq (M' := [(0, li 64), (3, .slice A_ ((prF k).length) c_), (4, vu (k + 2))]) rfl ?_
 have hk310 := hi15
 refine G.seqK fun K17 hK18 => ?_
 refine G.sr fun K19 hK20 => ?_
 refine GL.r 4 4 [(0, li 64), (3, .slice A_ ((prF k).length) c_), (4, vu (k + 2)), (12, .bool (decide ((((prF k).length : Nat) : Int) < 64)))] ?_
 refine GL.q hK20 ?_
 cases hb21 : (decide ((((prF k).length : Nat) : Int) < 64))
 · skip
   have hb21f := of_decide_eq_false hb21
   have hkE : k = 310 := prF_out hk310 (by omega)
   refine G.no rfl ?_
   refine G.exitK hK10 (fun _ _ h => h) ?_
   refine G.sr fun K22 hK23 => ?_
   refine GL.r 2 2 [(2, .slice A_ ((prF k).length) c_)] ?_
   refine GL.q hK23 ?_
   refine G.ret fun F_ hF_ hM_ => hRet _ _ (bodyPost_1 rfl (RV.tmp rfl) ?_ F_ hF_ hM_)
   have H24 := H16
   rw [hkE, prF_all] at H24
   refine ⟨A_, c_, ?_, H24⟩
   rw [hkE, prF_all]
   rfl
 · skip
   have hb21f := of_decide_eq_true hb21
   have hk9 : k < 310 := prF_in (by omega)
   refine G.yes rfl ?_
   refine G.skipK hK18 (fun _ _ h => h) ?_
   refine G.seqK fun K25 hK26 => ?_
   refine G.block ?_
   refine G.sr fun K27 hK28 => ?_
   refine GL.r 1 1 [(0, li 64), (3, .slice A_ ((prF k).length) c_), (4, vu (k + 2)), (5, .bool true)] ?_
   refine GL.q hK28 ?_
   refine G.seqK fun K29 hK30 => ?_
   refine G.sr fun K31 hK32 => ?_
   refine GL.r 3 3 [(0, li 64), (3, .slice A_ ((prF k).length) c_), (4, vu (k + 2)), (5, .bool true), (15, .slice A_ ((prF k).length) c_), (16, vi ((prF k).length)), (17, li 0)] ?_
   refine GL.q hK32 ?_
   refine G.block ?_
   refine G.fit [0, 3, 4, 5, 15, 16, 17] (M' := [(0, li 64), (3, .slice A_ ((prF k).length) c_), (4, vu (k + 2)), (5, .bool true), (15, .slice A_ ((prF k).length) c_), (16, vi ((prF k).length)), (17, li 0)]) (by kernel_rfl) ?_
   refine G.loop (X := Nat × Bool) (fun ⟨j, b⟩ => [(0, li 64), (3, .slice A_ ((prF k).length) c_), (4, vu (k + 2)), (5, .bool b), (15, .slice A_ ((prF k).length) c_), (16, vi ((prF k).length)), (17, vi j)]) (fun ⟨j, b⟩ w_ => (j ≤ (prF k).length ∧ b = ((prF k).take j).all (fun q => decide ((k + 2) % q ≠ 0))) ∧ Hp w [] [.row A_ ((prF k).length) c_ 31 1 (dg (prF k))] w_) (fun ⟨j, b⟩ => (prF k).length - j) ⟨0, true⟩ [0, 3, 4, 5, 15, 16, 17] (by kernel_rfl) ⟨⟨Nat.zero_le _, by rw [List.take_zero]; rfl⟩, H16⟩ ?_
   rintro ⟨j, b⟩ w33 ⟨hi34, H35⟩
   refine G.eq (M' := [(0, li 64), (3, .slice A_ ((prF k).length) c_), (4, vu (k + 2)), (5, .bool b), (15, .slice A_ ((prF k).length) c_), (16, vi ((prF k).length)), (17, vi j)]) rfl ?_
   obtain ⟨hjl, hbj⟩ := hi34
   refine G.sr fun K36 hK37 => ?_
   refine GL.r 1 1 [(0, li 64), (3, .slice A_ ((prF k).length) c_), (4, vu (k + 2)), (5, .bool b), (15, .slice A_ ((prF k).length) c_), (16, vi ((prF k).length)), (17, vi j), (18, .bool (decide ((j : Int) < (((prF k).length : Nat) : Int))))] ?_
   refine GL.q hK37 ?_
   refine G.seqK fun K38 hK39 => ?_
   cases hb40 : (decide ((j : Int) < (((prF k).length : Nat) : Int)))
   · skip
     have hb40f := of_decide_eq_false hb40
     have hbw : b = (prF k).all (fun q => decide ((k + 2) % q ≠ 0)) := by rw [hbj, List.take_of_length_le (by omega)]
     refine G.no rfl ?_
     refine G.exitK hK30 (fun _ _ h => h) ?_
     refine G.sr fun K41 hK42 => ?_
     refine GL.r 1 1 [(0, li 64), (3, .slice A_ ((prF k).length) c_), (4, vu (k + 2)), (29, .bool b)] ?_
     refine GL.q hK42 ?_
     rcases (Bool.eq_false_or_eq_true b).symm with hb43 | hb43
     · skip
       refine G.eq (M' := [(0, li 64), (3, .slice A_ ((prF k).length) c_), (4, vu (k + 2)), (29, .bool false)]) (by first | (rw [hb43]; done) | (rw [hb43]; rfl)) ?_
       refine G.no rfl ?_
       refine G.skipK hK26 (fun _ _ h => h) ?_
       refine G.region ?_
       refine GL.r 3 3 [(0, li 64), (3, .slice A_ ((prF k).length) c_), (4, lu (IntKind.u64.wrap ((((k + 2) : Nat) : Int) + 1)))] ?_
       have e44 : (IntKind.u64.wrap ((((k + 2) : Nat) : Int) + 1)) = ((k + 1 + 2 : Nat) : Int) := (n_add' (a := k + 2) (b := 1) (by omega))
       rw [e44]
       clear e44
       have hst : prF (k + 1) = prF k := by rw [prF, if_neg (by rw [← hbw]; rw [hb43]; decide)]
       have H45 : Hp w [] [.row A_ ((prF (k + 1)).length) c_ 31 1 (dg (prF (k + 1)))] w33 := by rw [hst]; exact H35
       refine GL.fit (ts := [0, 3, 4]) (M' := [(0, li 64), (3, .slice A_ ((prF k).length) c_), (4, vu (k + 1 + 2))]) (by kernel_rfl) ?_
       refine GL.eq (M' := [(0, li 64), (3, .slice A_ ((prF (k + 1)).length) c_), (4, vu ((k + 1) + 2))]) (by first | (rw [hst]; done) | (rw [hst]; rfl)) ?_
       exact GL.again ⟨(k + 1), A_, c_⟩ [0, 3, 4] rfl (by kernel_rfl) (by show 310 - (k + 1) < 310 - k; omega) ⟨by omega, H45⟩
     · skip
       refine G.eq (M' := [(0, li 64), (3, .slice A_ ((prF k).length) c_), (4, vu (k + 2)), (29, .bool true)]) (by first | (rw [hb43]; done) | (rw [hb43]; rfl)) ?_
       refine G.yes rfl ?_
       refine G.region ?_
       refine GL.r 2 2 [(0, li 64), (4, vu (k + 2)), (30, .slice A_ ((prF k).length) c_), (31, vu (k + 2))] ?_
       obtain ⟨p46, w47, r48, H49⟩ := H35.madeRow (P := Try.prog) (Instr.buildSlice 121 1 #[(0, vu (k + 2))]) (fun b_ => .slice (some ⟨b_, 0, none⟩) 1 1) [vu (k + 2)] 31 1 1 1 (by kernel_rfl) (by decide) (by decide) rfl
       refine GL.s 3 (r48) [(0, li 64), (4, vu (k + 2)), (30, .slice A_ ((prF k).length) c_), (32, .slice (some ⟨p46, 0, none⟩) 1 1)] ?_
       obtain ⟨A50, c51, w52, r53, H54⟩ := H49.append (P := Try.prog) (e := 31) (sz := 1) (by_ := 8) (n := (prF k).length) (c := c_) (m := 1) (d := 1) (t := 121) (ty := 121) (xs := dg (prF k)) (news := dg [(k + 2)]) 0 rfl (by kernel_rfl) (H49.rdRow 1 rfl) (by simp [dg_length]) (dg_one _) (by omega) (by simp only [maxLen]; omega)
       rw [← dg_append] at H54
       refine GL.s 4 (r53) [(0, li 64), (4, vu (k + 2)), (33, .slice A50 ((prF k).length + 1) c51)] ?_
       refine GL.r 5 1 [(0, li 64), (3, .slice A50 ((prF k).length + 1) c51), (4, vu (k + 2))] ?_
       refine GL.q hK26 ?_
       refine G.region ?_
       refine GL.r 3 3 [(0, li 64), (3, .slice A50 ((prF k).length + 1) c51), (4, lu (IntKind.u64.wrap ((((k + 2) : Nat) : Int) + 1)))] ?_
       have e55 : (IntKind.u64.wrap ((((k + 2) : Nat) : Int) + 1)) = ((k + 1 + 2 : Nat) : Int) := (n_add' (a := k + 2) (b := 1) (by omega))
       rw [e55]
       clear e55
       have H56 : Hp w [] [.row A50 ((prF k).length + 1) c51 31 1 (dg ((prF k) ++ [(k + 2)]))] w52 := H54.sub (List.Sublist.cons_cons _ (List.Sublist.cons _ (List.Sublist.slnil)))
       have hst : prF (k + 1) = prF k ++ [k + 2] := by rw [prF, if_pos (by rw [← hbw]; exact hb43)]
       have H57 : Hp w [] [.row A50 ((prF (k + 1)).length) c51 31 1 (dg (prF (k + 1)))] w52 := by rw [hst, List.length_append]; exact H56
       refine GL.fit (ts := [0, 3, 4]) (M' := [(0, li 64), (3, .slice A50 ((prF k).length + 1) c51), (4, vu (k + 1 + 2))]) (by kernel_rfl) ?_
       refine GL.eq (M' := [(0, li 64), (3, .slice A50 ((prF (k + 1)).length) c51), (4, vu ((k + 1) + 2))]) (by first | (rw [hst, List.length_append]; done) | (rw [hst, List.length_append]; rfl)) ?_
       exact GL.again ⟨(k + 1), A50, c51⟩ [0, 3, 4] rfl (by kernel_rfl) (by show 310 - (k + 1) < 310 - k; omega) ⟨by omega, H57⟩
   · skip
     have hb40f := of_decide_eq_true hb40
     refine G.yes rfl ?_
     refine G.skipK hK39 (fun _ _ h => h) ?_
     refine G.seqK fun K58 hK59 => ?_
     refine G.block ?_
     refine G.sr fun K60 hK61 => ?_
     refine GL.s 1 (run_idxRd (P := Try.prog) (k := .i64) (t := 121) (A := A_) (len := (prF k).length) (cap := c_) (j := j) (by kernel_rfl) rfl (H35.rdRow 0 rfl) (by first | exact dg_length _ | rw [dg_length]; first | rfl | assumption | (symm; assumption) | (simp; done) | (rw [List.length_take]; omega) | omega) (by first | rfl | omega | (simp only [List.length_cons, List.length_nil, List.length_drop, List.length_take, List.length_append] <;> omega))) [(0, li 64), (3, .slice A_ ((prF k).length) c_), (4, vu (k + 2)), (5, .bool b), (15, .slice A_ ((prF k).length) c_), (16, vi ((prF k).length)), (17, vi j), (19, .pointer (Option.map (fun x => Addr.add x j) A_))] ?_
     obtain ⟨d62, hd63⟩ : ∃ d : Nat, ((prF k))[j]? = some d := ⟨_, List.getElem?_eq_getElem (by omega)⟩
     have hge := prF_ge k _ (List.mem_of_getElem? hd63)
     refine GL.s 2 (run_ldRd (P := Try.prog) (ty := 31) (A := A_) (j := j) (v := vu d62) (by kernel_rfl) (H35.rdRow 0 rfl) (dg_at hd63)) [(0, li 64), (3, .slice A_ ((prF k).length) c_), (4, vu (k + 2)), (5, .bool b), (15, .slice A_ ((prF k).length) c_), (16, vi ((prF k).length)), (17, vi j), (20, vu d62)] ?_
     refine GL.r 3 1 [(0, li 64), (3, .slice A_ ((prF k).length) c_), (4, vu (k + 2)), (5, .bool b), (7, vu d62), (15, .slice A_ ((prF k).length) c_), (16, vi ((prF k).length)), (17, vi j)] ?_
     refine GL.q hK61 ?_
     refine G.region ?_
     refine GL.r 2 2 [(0, li 64), (3, .slice A_ ((prF k).length) c_), (4, vu (k + 2)), (7, vu d62), (15, .slice A_ ((prF k).length) c_), (16, vi ((prF k).length)), (17, vi j), (22, .bool b)] ?_
     rcases (Bool.eq_false_or_eq_true b).symm with hb64 | hb64
     · skip
       refine GL.eq (M' := [(0, li 64), (3, .slice A_ ((prF k).length) c_), (4, vu (k + 2)), (7, vu d62), (15, .slice A_ ((prF k).length) c_), (16, vi ((prF k).length)), (17, vi j), (22, .bool false)]) (by first | (rw [hb64]; done) | (rw [hb64]; rfl)) ?_
       refine GL.r 8 6 [(0, li 64), (3, .slice A_ ((prF k).length) c_), (4, vu (k + 2)), (5, .bool false), (15, .slice A_ ((prF k).length) c_), (16, vi ((prF k).length)), (17, vi j)] ?_
       refine GL.q hK59 ?_
       refine G.region ?_
       refine GL.r 2 2 [(0, li 64), (3, .slice A_ ((prF k).length) c_), (4, vu (k + 2)), (5, .bool false), (15, .slice A_ ((prF k).length) c_), (16, vi ((prF k).length)), (17, li (IntKind.i64.wrap ((j : Int) + 1)))] ?_
       have e65 : (IntKind.i64.wrap ((j : Int) + 1)) = ((j + 1 : Nat) : Int) := by rw [in_i64 (by omega)]; omega
       rw [e65]
       clear e65
       have hstep : false = ((prF k).take (j + 1)).all (fun q => decide ((k + 2) % q ≠ 0)) := by
         rw [all_take hd63, ← hbj, hb64]
         rfl
       refine GL.fit (ts := [0, 3, 4, 5, 15, 16, 17]) (M' := [(0, li 64), (3, .slice A_ ((prF k).length) c_), (4, vu (k + 2)), (5, .bool false), (15, .slice A_ ((prF k).length) c_), (16, vi ((prF k).length)), (17, vi (j + 1))]) (by kernel_rfl) ?_
       refine GL.eq (M' := [(0, li 64), (3, .slice A_ ((prF k).length) c_), (4, vu (k + 2)), (5, .bool false), (15, .slice A_ ((prF k).length) c_), (16, vi ((prF k).length)), (17, vi (j + 1))]) (by rfl) ?_
       exact GL.again ⟨(j + 1), false⟩ [0, 3, 4, 5, 15, 16, 17] rfl (by kernel_rfl) (by show (prF k).length - (j + 1) < (prF k).length - j; omega) ⟨⟨by omega, hstep⟩, H35⟩
     · skip
       refine GL.eq (M' := [(0, li 64), (3, .slice A_ ((prF k).length) c_), (4, vu (k + 2)), (7, vu d62), (15, .slice A_ ((prF k).length) c_), (16, vi ((prF k).length)), (17, vi j), (22, .bool true)]) (by first | (rw [hb64]; done) | (rw [hb64]; rfl)) ?_
       refine GL.r 4 2 [(0, li 64), (3, .slice A_ ((prF k).length) c_), (4, vu (k + 2)), (15, .slice A_ ((prF k).length) c_), (16, vi ((prF k).length)), (17, vi j), (22, .bool true), (23, vu (k + 2)), (24, vu d62)] ?_
       refine GL.s 5 (run_remN (P := Try.prog) (t := 31) (a := k + 2) (b := d62) (v := (k + 2) % d62) (by omega) rfl _) [(0, li 64), (3, .slice A_ ((prF k).length) c_), (4, vu (k + 2)), (15, .slice A_ ((prF k).length) c_), (16, vi ((prF k).length)), (17, vi j), (22, .bool true), (25, vu ((k + 2) % d62))] ?_
       refine GL.r 8 3 [(0, li 64), (3, .slice A_ ((prF k).length) c_), (4, vu (k + 2)), (5, .bool (((((k + 2) % d62) : Nat) : Int) != 0)), (15, .slice A_ ((prF k).length) c_), (16, vi ((prF k).length)), (17, vi j)] ?_
       refine GL.q hK59 ?_
       refine G.region ?_
       refine GL.r 2 2 [(0, li 64), (3, .slice A_ ((prF k).length) c_), (4, vu (k + 2)), (5, .bool (((((k + 2) % d62) : Nat) : Int) != 0)), (15, .slice A_ ((prF k).length) c_), (16, vi ((prF k).length)), (17, li (IntKind.i64.wrap ((j : Int) + 1)))] ?_
       have e66 : (IntKind.i64.wrap ((j : Int) + 1)) = ((j + 1 : Nat) : Int) := by rw [in_i64 (by omega)]; omega
       rw [e66]
       clear e66
       have hstep : (((((k + 2) % d62) : Nat) : Int) != 0) = ((prF k).take (j + 1)).all (fun q => decide ((k + 2) % q ≠ 0)) := by
         rw [all_take hd63, ← hbj, hb64]
         rw [Bool.true_and, Bool.eq_iff_iff, bne_iff_ne, decide_eq_true_iff]
         omega
       refine GL.fit (ts := [0, 3, 4, 5, 15, 16, 17]) (M' := [(0, li 64), (3, .slice A_ ((prF k).length) c_), (4, vu (k + 2)), (5, .bool (((((k + 2) % d62) : Nat) : Int) != 0)), (15, .slice A_ ((prF k).length) c_), (16, vi ((prF k).length)), (17, vi (j + 1))]) (by kernel_rfl) ?_
       refine GL.eq (M' := [(0, li 64), (3, .slice A_ ((prF k).length) c_), (4, vu (k + 2)), (5, .bool (((((k + 2) % d62) : Nat) : Int) != 0)), (15, .slice A_ ((prF k).length) c_), (16, vi ((prF k).length)), (17, vi (j + 1))]) (by rfl) ?_
       exact GL.again ⟨(j + 1), (((((k + 2) % d62) : Nat) : Int) != 0)⟩ [0, 3, 4, 5, 15, 16, 17] rfl (by kernel_rfl) (by show (prF k).length - (j + 1) < (prF k).length - j; omega) ⟨⟨by omega, hstep⟩, H35⟩
theorem TurnR2_calls (x : Nat) (hx : x < W32) (w : World) : Calls Try.prog 71 #[.int .u32 (x : Int), .int .i64 2] w fun e w' => e = .returned (.int .u32 ((rt x 2 : Nat) : Int)) ∧ Hp w [] [] w' := by
 refine calls_G (args := [vw x, li 2]) Try.func71 rfl Try.ntmps71 rfl ?_
 intro Q0 hRet hNor hPan
 have H := Hp.start w
 refine G.sr fun K1 hK2 => ?_
 refine GL.r 1 1 [(0, vw x), (1, li 2)] ?_
 refine GL.q hK2 ?_
 refine G.seqK fun K3 hK4 => ?_
 refine G.draw H (by kernel_rfl) (by kernel_rfl) ?_
 refine GQ.r 9 9 [(4, lw (Go.bits .or .u32 (Int.fdiv (x : Int) (2 ^ 2)) (IntKind.u32.wrap ((x : Int) * 2 ^ 30))))] ?_
 have e5 : (Int.fdiv (x : Int) (2 ^ 2)) = ((x / 2 ^ 2 : Nat) : Int) := n_shr x 2
 have e6 : (IntKind.u32.wrap ((x : Int) * 2 ^ 30)) = ((x * 2 ^ 30 % W32 : Nat) : Int) := w_shl x 30
 have e7 : (Go.bits .or .u32 ((x / 2 ^ 2 : Nat) : Int) ((x * 2 ^ 30 % W32 : Nat) : Int)) = ((rt x 2 : Nat) : Int) := (w_or (Nat.lt_of_le_of_lt (Nat.div_le_self _ _) hx) (Nat.mod_lt _ (by decide))).trans (by rw [Nat.or_comm]; rfl)
 refine GQ.eq (M' := [(4, vw (rt x 2))]) (by rw [e5, e6, e7]) ?_
 clear e5 e6 e7
 refine GQ.k rfl hK4 (fun _ _ h => h) (fun w8 H9 => ?_)
 refine G.ret fun F_ hF_ hM_ => hRet _ _ (bodyPost_1 rfl (RV.tmp rfl) ?_ F_ hF_ hM_)
 exact ⟨rfl, H9⟩
theorem TurnR6_calls (x : Nat) (hx : x < W32) (w : World) : Calls Try.prog 71 #[.int .u32 (x : Int), .int .i64 6] w fun e w' => e = .returned (.int .u32 ((rt x 6 : Nat) : Int)) ∧ Hp w [] [] w' := by
 refine calls_G (args := [vw x, li 6]) Try.func71 rfl Try.ntmps71 rfl ?_
 intro Q0 hRet hNor hPan
 have H := Hp.start w
 refine G.sr fun K1 hK2 => ?_
 refine GL.r 1 1 [(0, vw x), (1, li 6)] ?_
 refine GL.q hK2 ?_
 refine G.seqK fun K3 hK4 => ?_
 refine G.draw H (by kernel_rfl) (by kernel_rfl) ?_
 refine GQ.r 9 9 [(4, lw (Go.bits .or .u32 (Int.fdiv (x : Int) (2 ^ 6)) (IntKind.u32.wrap ((x : Int) * 2 ^ 26))))] ?_
 have e5 : (Int.fdiv (x : Int) (2 ^ 6)) = ((x / 2 ^ 6 : Nat) : Int) := n_shr x 6
 have e6 : (IntKind.u32.wrap ((x : Int) * 2 ^ 26)) = ((x * 2 ^ 26 % W32 : Nat) : Int) := w_shl x 26
 have e7 : (Go.bits .or .u32 ((x / 2 ^ 6 : Nat) : Int) ((x * 2 ^ 26 % W32 : Nat) : Int)) = ((rt x 6 : Nat) : Int) := (w_or (Nat.lt_of_le_of_lt (Nat.div_le_self _ _) hx) (Nat.mod_lt _ (by decide))).trans (by rw [Nat.or_comm]; rfl)
 refine GQ.eq (M' := [(4, vw (rt x 6))]) (by rw [e5, e6, e7]) ?_
 clear e5 e6 e7
 refine GQ.k rfl hK4 (fun _ _ h => h) (fun w8 H9 => ?_)
 refine G.ret fun F_ hF_ hM_ => hRet _ _ (bodyPost_1 rfl (RV.tmp rfl) ?_ F_ hF_ hM_)
 exact ⟨rfl, H9⟩
theorem TurnR7_calls (x : Nat) (hx : x < W32) (w : World) : Calls Try.prog 71 #[.int .u32 (x : Int), .int .i64 7] w fun e w' => e = .returned (.int .u32 ((rt x 7 : Nat) : Int)) ∧ Hp w [] [] w' := by
 refine calls_G (args := [vw x, li 7]) Try.func71 rfl Try.ntmps71 rfl ?_
 intro Q0 hRet hNor hPan
 have H := Hp.start w
 refine G.sr fun K1 hK2 => ?_
 refine GL.r 1 1 [(0, vw x), (1, li 7)] ?_
 refine GL.q hK2 ?_
 refine G.seqK fun K3 hK4 => ?_
 refine G.draw H (by kernel_rfl) (by kernel_rfl) ?_
 refine GQ.r 9 9 [(4, lw (Go.bits .or .u32 (Int.fdiv (x : Int) (2 ^ 7)) (IntKind.u32.wrap ((x : Int) * 2 ^ 25))))] ?_
 have e5 : (Int.fdiv (x : Int) (2 ^ 7)) = ((x / 2 ^ 7 : Nat) : Int) := n_shr x 7
 have e6 : (IntKind.u32.wrap ((x : Int) * 2 ^ 25)) = ((x * 2 ^ 25 % W32 : Nat) : Int) := w_shl x 25
 have e7 : (Go.bits .or .u32 ((x / 2 ^ 7 : Nat) : Int) ((x * 2 ^ 25 % W32 : Nat) : Int)) = ((rt x 7 : Nat) : Int) := (w_or (Nat.lt_of_le_of_lt (Nat.div_le_self _ _) hx) (Nat.mod_lt _ (by decide))).trans (by rw [Nat.or_comm]; rfl)
 refine GQ.eq (M' := [(4, vw (rt x 7))]) (by rw [e5, e6, e7]) ?_
 clear e5 e6 e7
 refine GQ.k rfl hK4 (fun _ _ h => h) (fun w8 H9 => ?_)
 refine G.ret fun F_ hF_ hM_ => hRet _ _ (bodyPost_1 rfl (RV.tmp rfl) ?_ F_ hF_ hM_)
 exact ⟨rfl, H9⟩
theorem TurnR11_calls (x : Nat) (hx : x < W32) (w : World) : Calls Try.prog 71 #[.int .u32 (x : Int), .int .i64 11] w fun e w' => e = .returned (.int .u32 ((rt x 11 : Nat) : Int)) ∧ Hp w [] [] w' := by
 refine calls_G (args := [vw x, li 11]) Try.func71 rfl Try.ntmps71 rfl ?_
 intro Q0 hRet hNor hPan
 have H := Hp.start w
 refine G.sr fun K1 hK2 => ?_
 refine GL.r 1 1 [(0, vw x), (1, li 11)] ?_
 refine GL.q hK2 ?_
 refine G.seqK fun K3 hK4 => ?_
 refine G.draw H (by kernel_rfl) (by kernel_rfl) ?_
 refine GQ.r 9 9 [(4, lw (Go.bits .or .u32 (Int.fdiv (x : Int) (2 ^ 11)) (IntKind.u32.wrap ((x : Int) * 2 ^ 21))))] ?_
 have e5 : (Int.fdiv (x : Int) (2 ^ 11)) = ((x / 2 ^ 11 : Nat) : Int) := n_shr x 11
 have e6 : (IntKind.u32.wrap ((x : Int) * 2 ^ 21)) = ((x * 2 ^ 21 % W32 : Nat) : Int) := w_shl x 21
 have e7 : (Go.bits .or .u32 ((x / 2 ^ 11 : Nat) : Int) ((x * 2 ^ 21 % W32 : Nat) : Int)) = ((rt x 11 : Nat) : Int) := (w_or (Nat.lt_of_le_of_lt (Nat.div_le_self _ _) hx) (Nat.mod_lt _ (by decide))).trans (by rw [Nat.or_comm]; rfl)
 refine GQ.eq (M' := [(4, vw (rt x 11))]) (by rw [e5, e6, e7]) ?_
 clear e5 e6 e7
 refine GQ.k rfl hK4 (fun _ _ h => h) (fun w8 H9 => ?_)
 refine G.ret fun F_ hF_ hM_ => hRet _ _ (bodyPost_1 rfl (RV.tmp rfl) ?_ F_ hF_ hM_)
 exact ⟨rfl, H9⟩
theorem TurnR13_calls (x : Nat) (hx : x < W32) (w : World) : Calls Try.prog 71 #[.int .u32 (x : Int), .int .i64 13] w fun e w' => e = .returned (.int .u32 ((rt x 13 : Nat) : Int)) ∧ Hp w [] [] w' := by
 refine calls_G (args := [vw x, li 13]) Try.func71 rfl Try.ntmps71 rfl ?_
 intro Q0 hRet hNor hPan
 have H := Hp.start w
 refine G.sr fun K1 hK2 => ?_
 refine GL.r 1 1 [(0, vw x), (1, li 13)] ?_
 refine GL.q hK2 ?_
 refine G.seqK fun K3 hK4 => ?_
 refine G.draw H (by kernel_rfl) (by kernel_rfl) ?_
 refine GQ.r 9 9 [(4, lw (Go.bits .or .u32 (Int.fdiv (x : Int) (2 ^ 13)) (IntKind.u32.wrap ((x : Int) * 2 ^ 19))))] ?_
 have e5 : (Int.fdiv (x : Int) (2 ^ 13)) = ((x / 2 ^ 13 : Nat) : Int) := n_shr x 13
 have e6 : (IntKind.u32.wrap ((x : Int) * 2 ^ 19)) = ((x * 2 ^ 19 % W32 : Nat) : Int) := w_shl x 19
 have e7 : (Go.bits .or .u32 ((x / 2 ^ 13 : Nat) : Int) ((x * 2 ^ 19 % W32 : Nat) : Int)) = ((rt x 13 : Nat) : Int) := (w_or (Nat.lt_of_le_of_lt (Nat.div_le_self _ _) hx) (Nat.mod_lt _ (by decide))).trans (by rw [Nat.or_comm]; rfl)
 refine GQ.eq (M' := [(4, vw (rt x 13))]) (by rw [e5, e6, e7]) ?_
 clear e5 e6 e7
 refine GQ.k rfl hK4 (fun _ _ h => h) (fun w8 H9 => ?_)
 refine G.ret fun F_ hF_ hM_ => hRet _ _ (bodyPost_1 rfl (RV.tmp rfl) ?_ F_ hF_ hM_)
 exact ⟨rfl, H9⟩
theorem TurnR17_calls (x : Nat) (hx : x < W32) (w : World) : Calls Try.prog 71 #[.int .u32 (x : Int), .int .i64 17] w fun e w' => e = .returned (.int .u32 ((rt x 17 : Nat) : Int)) ∧ Hp w [] [] w' := by
 refine calls_G (args := [vw x, li 17]) Try.func71 rfl Try.ntmps71 rfl ?_
 intro Q0 hRet hNor hPan
 have H := Hp.start w
 refine G.sr fun K1 hK2 => ?_
 refine GL.r 1 1 [(0, vw x), (1, li 17)] ?_
 refine GL.q hK2 ?_
 refine G.seqK fun K3 hK4 => ?_
 refine G.draw H (by kernel_rfl) (by kernel_rfl) ?_
 refine GQ.r 9 9 [(4, lw (Go.bits .or .u32 (Int.fdiv (x : Int) (2 ^ 17)) (IntKind.u32.wrap ((x : Int) * 2 ^ 15))))] ?_
 have e5 : (Int.fdiv (x : Int) (2 ^ 17)) = ((x / 2 ^ 17 : Nat) : Int) := n_shr x 17
 have e6 : (IntKind.u32.wrap ((x : Int) * 2 ^ 15)) = ((x * 2 ^ 15 % W32 : Nat) : Int) := w_shl x 15
 have e7 : (Go.bits .or .u32 ((x / 2 ^ 17 : Nat) : Int) ((x * 2 ^ 15 % W32 : Nat) : Int)) = ((rt x 17 : Nat) : Int) := (w_or (Nat.lt_of_le_of_lt (Nat.div_le_self _ _) hx) (Nat.mod_lt _ (by decide))).trans (by rw [Nat.or_comm]; rfl)
 refine GQ.eq (M' := [(4, vw (rt x 17))]) (by rw [e5, e6, e7]) ?_
 clear e5 e6 e7
 refine GQ.k rfl hK4 (fun _ _ h => h) (fun w8 H9 => ?_)
 refine G.ret fun F_ hF_ hM_ => hRet _ _ (bodyPost_1 rfl (RV.tmp rfl) ?_ F_ hF_ hM_)
 exact ⟨rfl, H9⟩
theorem TurnR18_calls (x : Nat) (hx : x < W32) (w : World) : Calls Try.prog 71 #[.int .u32 (x : Int), .int .i64 18] w fun e w' => e = .returned (.int .u32 ((rt x 18 : Nat) : Int)) ∧ Hp w [] [] w' := by
 refine calls_G (args := [vw x, li 18]) Try.func71 rfl Try.ntmps71 rfl ?_
 intro Q0 hRet hNor hPan
 have H := Hp.start w
 refine G.sr fun K1 hK2 => ?_
 refine GL.r 1 1 [(0, vw x), (1, li 18)] ?_
 refine GL.q hK2 ?_
 refine G.seqK fun K3 hK4 => ?_
 refine G.draw H (by kernel_rfl) (by kernel_rfl) ?_
 refine GQ.r 9 9 [(4, lw (Go.bits .or .u32 (Int.fdiv (x : Int) (2 ^ 18)) (IntKind.u32.wrap ((x : Int) * 2 ^ 14))))] ?_
 have e5 : (Int.fdiv (x : Int) (2 ^ 18)) = ((x / 2 ^ 18 : Nat) : Int) := n_shr x 18
 have e6 : (IntKind.u32.wrap ((x : Int) * 2 ^ 14)) = ((x * 2 ^ 14 % W32 : Nat) : Int) := w_shl x 14
 have e7 : (Go.bits .or .u32 ((x / 2 ^ 18 : Nat) : Int) ((x * 2 ^ 14 % W32 : Nat) : Int)) = ((rt x 18 : Nat) : Int) := (w_or (Nat.lt_of_le_of_lt (Nat.div_le_self _ _) hx) (Nat.mod_lt _ (by decide))).trans (by rw [Nat.or_comm]; rfl)
 refine GQ.eq (M' := [(4, vw (rt x 18))]) (by rw [e5, e6, e7]) ?_
 clear e5 e6 e7
 refine GQ.k rfl hK4 (fun _ _ h => h) (fun w8 H9 => ?_)
 refine G.ret fun F_ hF_ hM_ => hRet _ _ (bodyPost_1 rfl (RV.tmp rfl) ?_ F_ hF_ hM_)
 exact ⟨rfl, H9⟩
theorem TurnR19_calls (x : Nat) (hx : x < W32) (w : World) : Calls Try.prog 71 #[.int .u32 (x : Int), .int .i64 19] w fun e w' => e = .returned (.int .u32 ((rt x 19 : Nat) : Int)) ∧ Hp w [] [] w' := by
 refine calls_G (args := [vw x, li 19]) Try.func71 rfl Try.ntmps71 rfl ?_
 intro Q0 hRet hNor hPan
 have H := Hp.start w
 refine G.sr fun K1 hK2 => ?_
 refine GL.r 1 1 [(0, vw x), (1, li 19)] ?_
 refine GL.q hK2 ?_
 refine G.seqK fun K3 hK4 => ?_
 refine G.draw H (by kernel_rfl) (by kernel_rfl) ?_
 refine GQ.r 9 9 [(4, lw (Go.bits .or .u32 (Int.fdiv (x : Int) (2 ^ 19)) (IntKind.u32.wrap ((x : Int) * 2 ^ 13))))] ?_
 have e5 : (Int.fdiv (x : Int) (2 ^ 19)) = ((x / 2 ^ 19 : Nat) : Int) := n_shr x 19
 have e6 : (IntKind.u32.wrap ((x : Int) * 2 ^ 13)) = ((x * 2 ^ 13 % W32 : Nat) : Int) := w_shl x 13
 have e7 : (Go.bits .or .u32 ((x / 2 ^ 19 : Nat) : Int) ((x * 2 ^ 13 % W32 : Nat) : Int)) = ((rt x 19 : Nat) : Int) := (w_or (Nat.lt_of_le_of_lt (Nat.div_le_self _ _) hx) (Nat.mod_lt _ (by decide))).trans (by rw [Nat.or_comm]; rfl)
 refine GQ.eq (M' := [(4, vw (rt x 19))]) (by rw [e5, e6, e7]) ?_
 clear e5 e6 e7
 refine GQ.k rfl hK4 (fun _ _ h => h) (fun w8 H9 => ?_)
 refine G.ret fun F_ hF_ hM_ => hRet _ _ (bodyPost_1 rfl (RV.tmp rfl) ?_ F_ hF_ hM_)
 exact ⟨rfl, H9⟩
theorem TurnR22_calls (x : Nat) (hx : x < W32) (w : World) : Calls Try.prog 71 #[.int .u32 (x : Int), .int .i64 22] w fun e w' => e = .returned (.int .u32 ((rt x 22 : Nat) : Int)) ∧ Hp w [] [] w' := by
 refine calls_G (args := [vw x, li 22]) Try.func71 rfl Try.ntmps71 rfl ?_
 intro Q0 hRet hNor hPan
 have H := Hp.start w
 refine G.sr fun K1 hK2 => ?_
 refine GL.r 1 1 [(0, vw x), (1, li 22)] ?_
 refine GL.q hK2 ?_
 refine G.seqK fun K3 hK4 => ?_
 refine G.draw H (by kernel_rfl) (by kernel_rfl) ?_
 refine GQ.r 9 9 [(4, lw (Go.bits .or .u32 (Int.fdiv (x : Int) (2 ^ 22)) (IntKind.u32.wrap ((x : Int) * 2 ^ 10))))] ?_
 have e5 : (Int.fdiv (x : Int) (2 ^ 22)) = ((x / 2 ^ 22 : Nat) : Int) := n_shr x 22
 have e6 : (IntKind.u32.wrap ((x : Int) * 2 ^ 10)) = ((x * 2 ^ 10 % W32 : Nat) : Int) := w_shl x 10
 have e7 : (Go.bits .or .u32 ((x / 2 ^ 22 : Nat) : Int) ((x * 2 ^ 10 % W32 : Nat) : Int)) = ((rt x 22 : Nat) : Int) := (w_or (Nat.lt_of_le_of_lt (Nat.div_le_self _ _) hx) (Nat.mod_lt _ (by decide))).trans (by rw [Nat.or_comm]; rfl)
 refine GQ.eq (M' := [(4, vw (rt x 22))]) (by rw [e5, e6, e7]) ?_
 clear e5 e6 e7
 refine GQ.k rfl hK4 (fun _ _ h => h) (fun w8 H9 => ?_)
 refine G.ret fun F_ hF_ hM_ => hRet _ _ (bodyPost_1 rfl (RV.tmp rfl) ?_ F_ hF_ hM_)
 exact ⟨rfl, H9⟩
theorem TurnR25_calls (x : Nat) (hx : x < W32) (w : World) : Calls Try.prog 71 #[.int .u32 (x : Int), .int .i64 25] w fun e w' => e = .returned (.int .u32 ((rt x 25 : Nat) : Int)) ∧ Hp w [] [] w' := by
 refine calls_G (args := [vw x, li 25]) Try.func71 rfl Try.ntmps71 rfl ?_
 intro Q0 hRet hNor hPan
 have H := Hp.start w
 refine G.sr fun K1 hK2 => ?_
 refine GL.r 1 1 [(0, vw x), (1, li 25)] ?_
 refine GL.q hK2 ?_
 refine G.seqK fun K3 hK4 => ?_
 refine G.draw H (by kernel_rfl) (by kernel_rfl) ?_
 refine GQ.r 9 9 [(4, lw (Go.bits .or .u32 (Int.fdiv (x : Int) (2 ^ 25)) (IntKind.u32.wrap ((x : Int) * 2 ^ 7))))] ?_
 have e5 : (Int.fdiv (x : Int) (2 ^ 25)) = ((x / 2 ^ 25 : Nat) : Int) := n_shr x 25
 have e6 : (IntKind.u32.wrap ((x : Int) * 2 ^ 7)) = ((x * 2 ^ 7 % W32 : Nat) : Int) := w_shl x 7
 have e7 : (Go.bits .or .u32 ((x / 2 ^ 25 : Nat) : Int) ((x * 2 ^ 7 % W32 : Nat) : Int)) = ((rt x 25 : Nat) : Int) := (w_or (Nat.lt_of_le_of_lt (Nat.div_le_self _ _) hx) (Nat.mod_lt _ (by decide))).trans (by rw [Nat.or_comm]; rfl)
 refine GQ.eq (M' := [(4, vw (rt x 25))]) (by rw [e5, e6, e7]) ?_
 clear e5 e6 e7
 refine GQ.k rfl hK4 (fun _ _ h => h) (fun w8 H9 => ?_)
 refine G.ret fun F_ hF_ hM_ => hRet _ _ (bodyPost_1 rfl (RV.tmp rfl) ?_ F_ hF_ hM_)
 exact ⟨rfl, H9⟩
end Go.Proofs.Ytcedmbdahbdmaaa
set_option maxRecDepth 100000
namespace Go.Proofs.Ytcedmbdahbdmaaa
open Go.RowKit
def preZ (L : List Nat) (i n : Nat) : List Nat := L.take i ++ List.replicate (n - i) 0
theorem preZ_length {L : List Nat} {i n : Nat} (h : L.length = n) : (preZ L i n).length = n := by
 rw [preZ, List.length_append, List.length_take, List.length_replicate]
 omega
theorem preZ_set {L : List Nat} {i n v : Nat} (h : i < n) (hL : L.length = n) (hv : v = L.getD i 0) : (preZ L i n).set i v = preZ L (i + 1) n := by
 subst hv
 unfold preZ
 have hl : (L.take i).length = i := by rw [List.length_take]; omega
 rw [List.set_append_right _ _ (by rw [hl]; exact Nat.le_refl _), hl, Nat.sub_self, show n - i = (n - (i + 1)) + 1 by omega, List.replicate_succ, List.set_cons_zero, List.take_add_one, getD_at (show i < L.length by omega), List.append_assoc]
 rfl
theorem preZ_over {L : List Nat} {i n : Nat} (h : n ≤ i) (hL : L.length = n) : preZ L (i + 1) n = preZ L i n := by
 unfold preZ
 rw [List.take_of_length_le (by omega), List.take_of_length_le (by omega), show n - (i + 1) = 0 by omega, show n - i = 0 by omega]
theorem wsN_stable (p : List UInt8) {j i : Nat} (h : j < i) : ∀ d, (wsN p (i + d)).getD j 0 = (wsN p i).getD j 0
 | 0 => rfl
 | d + 1 => by
   rw [← wsN_stable p h d, ← Nat.add_assoc, wsN, List.getD_eq_getElem?_getD, List.getD_eq_getElem?_getD, List.getElem?_append_left (by rw [wsN_length]; omega), ← List.getD_eq_getElem?_getD]
theorem be4 (p : List UInt8) (o : Nat) : beF p o 4 = (p.getD o 0).toNat * 16777216 + (p.getD (o + 1) 0).toNat * 65536 + (p.getD (o + 2) 0).toNat * 256 + (p.getD (o + 3) 0).toNat := by
 simp only [beF, Nat.add_zero]
 omega
theorem part_at {m : List UInt8} {l n k : Nat} (hk : k < n) : ((m.drop l).take n).getD k 0 = m.getD (l + k) 0 := by
 rw [List.getD_eq_getElem?_getD, List.getD_eq_getElem?_getD, List.getElem?_take_of_lt hk, List.getElem?_drop]
theorem w_shlB {b : Nat} (r m : Nat) (hr : 2 ^ r = m) (hb : b * m < W32) : IntKind.u32.wrap ((b : Int) * 2 ^ r) = ((b * m : Nat) : Int) := by
 subst hr
 rw [w_shl, Nat.mod_eq_of_lt hb]
theorem w_orA {x y : Nat} (r m : Nat) (hr : 2 ^ r = m) (hy : y < m) (hx : x * m + y < W32) : Go.bits .or .u32 ((x * m : Nat) : Int) (y : Int) = ((x * m + y : Nat) : Int) := by
 subst hr
 rw [w_or (by omega) (by omega), Nat.mul_comm x, ← Nat.two_pow_add_eq_or_of_lt hy]
set_option maxRecDepth 100000 in
set_option maxHeartbeats 4000000 in
theorem RefSum_calls (A : Option Addr) (n c : Nat) (b : List UInt8) (w : World) (hx : RdS w A (by8 b)) (hn : n = b.length) (hb : b.length ≤ 1000000) : Calls Try.prog 52 #[.slice A n c] w fun e w' => e = .returned (.agg (by8 (sha b)).toArray) ∧ Hp w [] [] w' := by
 subst hn
 refine calls_G (args := [.slice A b.length c]) Try.func52 rfl Try.ntmps52 rfl ?_
 intro Q0 hRet hNor hPan
 have H := Hp.start w
 refine G.sr fun K1 hK2 => ?_
 obtain ⟨p3, w4, r5, H6⟩ := H.alloc (P := Try.prog) 50 (by8 (bsP (outB (blocks (padM b) ((padM b).length / 64))) 32 0)) (by kernel_rfl)
 refine GL.s 1 (r5) [(0, .slice A b.length c), (2, pt p3 0)] ?_
 refine GL.q hK2 ?_
 refine G.sr fun K7 hK8 => ?_
 refine GL.r 2 2 [(0, .slice A b.length c), (2, pt p3 0), (18, .agg (u32s (preZ KT 0 64)).toArray), (19, .agg (u32s (preZ H0L 0 8)).toArray)] ?_
 obtain ⟨p9, w10, r11, H12⟩ := H6.alloc (P := Try.prog) 119 (u32s (preZ KT 0 64)) (by kernel_rfl)
 refine GL.s 3 (r11) [(0, .slice A b.length c), (2, pt p3 0), (3, pt p9 0), (18, .agg (u32s (preZ KT 0 64)).toArray), (19, .agg (u32s (preZ H0L 0 8)).toArray)] ?_
 obtain ⟨p13, w14, r15, H16⟩ := H12.alloc (P := Try.prog) 120 (u32s (preZ H0L 0 8)) (by kernel_rfl)
 refine GL.s 4 (r15) [(0, .slice A b.length c), (2, pt p3 0), (3, pt p9 0), (4, pt p13 0), (18, .agg (u32s (preZ KT 0 64)).toArray), (19, .agg (u32s (preZ H0L 0 8)).toArray)] ?_
 obtain ⟨w17, r18, H19⟩ := H16.stA (P := Try.prog) (o := 0) (vs := u32s (preZ KT 0 64)) (ty := 119) (m := 64) 1 rfl (by kernel_rfl) rfl (by rw [u32s_length, preZ_length KT_length]; omega) (u32s_one _)
 rw [st_whole (by rw [u32s_length, preZ_length KT_length])] at H19
 have H19 : Hp w [] [.blk p3 (by8 (bsP (outB (blocks (padM b) ((padM b).length / 64))) 32 0)) 50, .blk p9 (u32s (preZ KT 0 64)) 119, .blk p13 (u32s (preZ H0L 0 8)) 120] w17 := H19
 refine GL.u 5 r18 [(0, .slice A b.length c), (2, pt p3 0), (3, pt p9 0), (4, pt p13 0), (19, .agg (u32s (preZ H0L 0 8)).toArray)] ?_
 obtain ⟨w20, r21, H22⟩ := H19.stA (P := Try.prog) (o := 0) (vs := u32s (preZ H0L 0 8)) (ty := 120) (m := 8) 2 rfl (by kernel_rfl) rfl (by rw [u32s_length, preZ_length (L := H0L) (n := 8) rfl]; omega) (u32s_one _)
 rw [st_whole (by rw [u32s_length, preZ_length (L := H0L) (n := 8) rfl])] at H22
 have H22 : Hp w [] [.blk p3 (by8 (bsP (outB (blocks (padM b) ((padM b).length / 64))) 32 0)) 50, .blk p9 (u32s (preZ KT 0 64)) 119, .blk p13 (u32s (preZ H0L 0 8)) 120] w20 := H22
 refine GL.u 6 r21 [(0, .slice A b.length c), (2, pt p3 0), (3, pt p9 0), (4, pt p13 0)] ?_
 refine GL.q hK8 ?_
 refine G.seqK fun K23 hK24 => ?_
 refine G.sr fun K25 hK26 => ?_
 refine GL.call (j := 1) (Primes_calls w20) (by kernel_rfl) rfl (fun e_ w31 hR => ?_)
 obtain ⟨A27, c28, rfl, H30⟩ := hR
 have H29 : Hp w [] [.blk p3 (by8 (bsP (outB (blocks (padM b) ((padM b).length / 64))) 32 0)) 50, .blk p9 (u32s (preZ KT 0 64)) 119, .blk p13 (u32s (preZ H0L 0 8)) 120, .row A27 64 c28 31 1 (dg PR)] w31 := H22.callNew H30
 refine ⟨_, rfl, [0, 2, 3, 4, 20], [(0, .slice A b.length c), (2, pt p3 0), (3, pt p9 0), (4, pt p13 0), (20, .slice A27 64 c28)], by kernel_rfl, ?_⟩
 refine GL.r 3 2 [(0, .slice A b.length c), (2, pt p3 0), (3, pt p9 0), (4, pt p13 0), (20, .slice A27 64 c28), (21, li 64), (22, li 0)] ?_
 refine GL.q hK26 ?_
 refine G.block ?_
 have hPRl : PR.length = 64 := rfl
 refine G.fit [0, 2, 3, 4, 20, 21, 22] (M' := [(0, .slice A b.length c), (2, pt p3 0), (3, pt p9 0), (4, pt p13 0), (20, .slice A27 64 c28), (21, li 64), (22, li 0)]) (by kernel_rfl) ?_
 refine G.loop (X := Nat) (fun i => [(0, .slice A b.length c), (2, pt p3 0), (3, pt p9 0), (4, pt p13 0), (20, .slice A27 64 c28), (21, li 64), (22, vi i)]) (fun i w_ => (i ≤ 64) ∧ Hp w [] [.blk p3 (by8 (bsP (outB (blocks (padM b) ((padM b).length / 64))) 32 0)) 50, .blk p9 (u32s (preZ KT i 64)) 119, .blk p13 (u32s (preZ H0L i 8)) 120, .row A27 64 c28 31 1 (dg PR)] w_) (fun i => 64 - i) 0 [0, 2, 3, 4, 20, 21, 22] (by kernel_rfl) ⟨by omega, H29⟩ ?_
 rintro i w32 ⟨hi33, H34⟩
 refine G.eq (M' := [(0, .slice A b.length c), (2, pt p3 0), (3, pt p9 0), (4, pt p13 0), (20, .slice A27 64 c28), (21, li 64), (22, vi i)]) rfl ?_
 have hi64 := hi33
 refine G.sr fun K35 hK36 => ?_
 refine GL.r 1 1 [(0, .slice A b.length c), (2, pt p3 0), (3, pt p9 0), (4, pt p13 0), (20, .slice A27 64 c28), (21, li 64), (22, vi i), (23, .bool (decide ((i : Int) < 64)))] ?_
 refine GL.q hK36 ?_
 refine G.seqK fun K37 hK38 => ?_
 cases hb39 : (decide ((i : Int) < 64))
 · skip
   have hb39f := of_decide_eq_false hb39
   refine G.no rfl ?_
   refine G.exitK hK24 (fun _ _ h => h) ?_
   refine G.sr fun K40 hK41 => ?_
   obtain ⟨p42, w43, r44, H45⟩ := H34.madeRow (P := Try.prog) (Instr.buildSlice 38 0 #[]) (fun b_ => .slice (some ⟨b_, 0, none⟩) 0 0) [] 5 0 0 1 (by kernel_rfl) (by decide) (by decide) rfl
   refine GL.s 1 (r44) [(0, .slice A b.length c), (2, pt p3 0), (3, pt p9 0), (4, pt p13 0), (38, .slice (some ⟨p42, 0, none⟩) 0 0)] ?_
   refine GL.r 2 1 [(0, .slice A b.length c), (2, pt p3 0), (3, pt p9 0), (4, pt p13 0), (38, .slice (some ⟨p42, 0, none⟩) 0 0), (39, .slice A b.length c)] ?_
   obtain ⟨A46, c47, w48, r49, H50⟩ := H45.append (P := Try.prog) (e := 5) (sz := 1) (by_ := 1) (n := 0) (c := 0) (m := b.length) (d := c) (t := 38) (ty := 38) (xs := by8 ([] : List UInt8)) (news := by8 b) 4 rfl (by kernel_rfl) (hx.hp H45) (by first | (simp [by8_length]; done) | (rw [by8_length]; omega) | (rw [by8_length, putB_length])) (by8_one _) (by omega) (by simp only [maxLen]; omega)
   rw [Nat.zero_add] at r49 H50
   have H50 : Hp w [] [.blk p3 (by8 (bsP (outB (blocks (padM b) ((padM b).length / 64))) 32 0)) 50, .blk p9 (u32s (preZ KT i 64)) 119, .blk p13 (u32s (preZ H0L i 8)) 120, .row A27 64 c28 31 1 (dg PR), .row A46 b.length c47 5 1 (by8 b)] w48 := H50
   refine GL.s 3 (r49) [(0, .slice A b.length c), (2, pt p3 0), (3, pt p9 0), (4, pt p13 0), (40, .slice A46 b.length c47)] ?_
   refine GL.r 4 1 [(0, .slice A b.length c), (2, pt p3 0), (3, pt p9 0), (4, pt p13 0), (7, .slice A46 b.length c47)] ?_
   refine GL.q hK41 ?_
   refine G.sr fun K51 hK52 => ?_
   refine GL.r 1 1 [(0, .slice A b.length c), (2, pt p3 0), (3, pt p9 0), (4, pt p13 0), (41, .slice A46 b.length c47)] ?_
   obtain ⟨p53, w54, r55, H56⟩ := H50.madeRow (P := Try.prog) (Instr.buildSlice 38 1 #[(0, lb 128)]) (fun b_ => .slice (some ⟨b_, 0, none⟩) 1 1) [lb 128] 5 1 1 1 (by kernel_rfl) (by decide) (by decide) rfl
   refine GL.s 2 (r55) [(0, .slice A b.length c), (2, pt p3 0), (3, pt p9 0), (4, pt p13 0), (41, .slice A46 b.length c47), (42, .slice (some ⟨p53, 0, none⟩) 1 1)] ?_
   obtain ⟨A57, c58, w59, r60, H61⟩ := H56.append (P := Try.prog) (e := 5) (sz := 1) (by_ := 1) (n := b.length) (c := c47) (m := 1) (d := 1) (t := 38) (ty := 38) (xs := by8 b) (news := by8 ([128] : List UInt8)) 4 rfl (by kernel_rfl) (H56.rdRow 5 rfl) (by first | (simp [by8_length]; done) | (rw [by8_length]; omega) | (rw [by8_length, putB_length])) (by8_one _) (by omega) (by simp only [maxLen]; omega)
   rw [← by8_append] at H61
   have H61 : Hp w [] [.blk p3 (by8 (bsP (outB (blocks (padM b) ((padM b).length / 64))) 32 0)) 50, .blk p9 (u32s (preZ KT i 64)) 119, .blk p13 (u32s (preZ H0L i 8)) 120, .row A27 64 c28 31 1 (dg PR), .row A57 (b.length + 1) c58 5 1 (by8 (b ++ ([128] : List UInt8))), .row (some ⟨p53, 0, none⟩) 1 1 5 1 (by8 ([128] : List UInt8))] w59 := H61
   refine GL.s 3 (r60) [(0, .slice A b.length c), (2, pt p3 0), (3, pt p9 0), (4, pt p13 0), (43, .slice A57 (b.length + 1) c58)] ?_
   refine GL.r 4 1 [(0, .slice A b.length c), (2, pt p3 0), (3, pt p9 0), (4, pt p13 0), (7, .slice A57 (b.length + 1) c58)] ?_
   refine GL.q hK52 ?_
   refine G.seqK fun K62 hK63 => ?_
   refine G.block ?_
   obtain rfl : i = 64 := by omega
   have H64 : Hp w [] [.blk p3 (by8 (bsP (outB (blocks (padM b) ((padM b).length / 64))) 32 0)) 50, .blk p9 (u32s (preZ KT 64 64)) 119, .blk p13 (u32s (preZ H0L 64 8)) 120, .row A27 64 c28 31 1 (dg PR), .row A57 (b.length + 1 + 0) c58 5 1 (by8 (b ++ [128] ++ List.replicate 0 0)), .row (some ⟨p53, 0, none⟩) 1 1 5 1 (by8 ([128] : List UInt8))] w59 := by rw [show List.replicate 0 (0 : UInt8) = [] from rfl, List.append_nil]; exact H61
   refine G.fit [0, 2, 3, 4, 7] (M' := [(0, .slice A b.length c), (2, pt p3 0), (3, pt p9 0), (4, pt p13 0), (7, .slice A57 (b.length + 1 + 0) c58)]) (by kernel_rfl) ?_
   refine G.loop (X := Nat × Option Addr × Nat) (fun ⟨j, B_, C_⟩ => [(0, .slice A b.length c), (2, pt p3 0), (3, pt p9 0), (4, pt p13 0), (7, .slice B_ (b.length + 1 + j) C_)]) (fun ⟨j, B_, C_⟩ w_ => (j ≤ padZ b.length) ∧ Hp w [] [.blk p3 (by8 (bsP (outB (blocks (padM b) ((padM b).length / 64))) 32 0)) 50, .blk p9 (u32s (preZ KT 64 64)) 119, .blk p13 (u32s (preZ H0L 64 8)) 120, .row A27 64 c28 31 1 (dg PR), .row B_ (b.length + 1 + j) C_ 5 1 (by8 (b ++ [128] ++ List.replicate j 0)), .row (some ⟨p53, 0, none⟩) 1 1 5 1 (by8 ([128] : List UInt8))] w_) (fun ⟨j, B_, C_⟩ => padZ b.length - j) ⟨0, A57, c58⟩ [0, 2, 3, 4, 7] (by kernel_rfl) ⟨by omega, H64⟩ ?_
   rintro ⟨j, B_, C_⟩ w65 ⟨hi66, H67⟩
   refine G.eq (M' := [(0, .slice A b.length c), (2, pt p3 0), (3, pt p9 0), (4, pt p13 0), (7, .slice B_ (b.length + 1 + j) C_)]) rfl ?_
   have hj := hi66
   have hz : padZ b.length = (119 - b.length % 64) % 64 := rfl
   refine G.seqK fun K68 hK69 => ?_
   refine G.sr fun K70 hK71 => ?_
   refine GL.r 4 4 [(0, .slice A b.length c), (2, pt p3 0), (3, pt p9 0), (4, pt p13 0), (7, .slice B_ (b.length + 1 + j) C_), (47, .bool ((Int.tmod (((b.length + 1 + j) : Nat) : Int) 64) != 56))] ?_
   have e72 : (Int.tmod (((b.length + 1 + j) : Nat) : Int) 64) = (((b.length + 1 + j) % 64 : Nat) : Int) := n_rem _ 64
   rw [e72]
   clear e72
   refine GL.q hK71 ?_
   cases hb73 : ((((b.length + 1 + j) % 64 : Nat) : Int) != 56)
   · skip
     have hb73f : (((b.length + 1 + j) % 64 : Nat) : Int) = 56 := bne_eq_false_iff_eq.1 hb73
     refine G.no rfl ?_
     refine G.exitK hK63 (fun _ _ h => h) ?_
     refine G.seqK fun K74 hK75 => ?_
     refine G.sr fun K76 hK77 => ?_
     refine GL.r 1 1 [(0, .slice A b.length c), (2, pt p3 0), (3, pt p9 0), (4, pt p13 0), (7, .slice B_ (b.length + 1 + j) C_), (8, li 56)] ?_
     refine GL.q hK77 ?_
     refine G.block ?_
     obtain rfl : j = padZ b.length := by omega
     have H78 : Hp w [] [.blk p3 (by8 (bsP (outB (blocks (padM b) ((padM b).length / 64))) 32 0)) 50, .blk p9 (u32s (preZ KT 64 64)) 119, .blk p13 (u32s (preZ H0L 64 8)) 120, .row A27 64 c28 31 1 (dg PR), .row B_ (b.length + 1 + padZ b.length + 0) C_ 5 1 (by8 ((b ++ [128] ++ List.replicate (padZ b.length) 0) ++ lenB b.length 0)), .row (some ⟨p53, 0, none⟩) 1 1 5 1 (by8 ([128] : List UInt8))] w65 := by rw [show lenB b.length 0 = [] from rfl, List.append_nil]; exact H67
     refine G.fit [0, 2, 3, 4, 7, 8] (M' := [(0, .slice A b.length c), (2, pt p3 0), (3, pt p9 0), (4, pt p13 0), (7, .slice B_ (b.length + 1 + padZ b.length + 0) C_), (8, li 56)]) (by kernel_rfl) ?_
     refine G.eq (M' := [(0, .slice A b.length c), (2, pt p3 0), (3, pt p9 0), (4, pt p13 0), (7, .slice B_ (b.length + 1 + padZ b.length + 0) C_), (8, li (56 - 8 * ((0 : Nat) : Int)))]) (by rfl) ?_
     refine G.loop (X := Nat × Option Addr × Nat) (fun ⟨k, B_, C_⟩ => [(0, .slice A b.length c), (2, pt p3 0), (3, pt p9 0), (4, pt p13 0), (7, .slice B_ (b.length + 1 + padZ b.length + k) C_), (8, li (56 - 8 * (k : Int)))]) (fun ⟨k, B_, C_⟩ w_ => (k ≤ 8) ∧ Hp w [] [.blk p3 (by8 (bsP (outB (blocks (padM b) ((padM b).length / 64))) 32 0)) 50, .blk p9 (u32s (preZ KT 64 64)) 119, .blk p13 (u32s (preZ H0L 64 8)) 120, .row A27 64 c28 31 1 (dg PR), .row B_ (b.length + 1 + padZ b.length + k) C_ 5 1 (by8 ((b ++ [128] ++ List.replicate (padZ b.length) 0) ++ lenB b.length k)), .row (some ⟨p53, 0, none⟩) 1 1 5 1 (by8 ([128] : List UInt8))] w_) (fun ⟨k, B_, C_⟩ => 8 - k) ⟨0, B_, C_⟩ [0, 2, 3, 4, 7, 8] (by kernel_rfl) ⟨by omega, H78⟩ ?_
     rintro ⟨k, B_, C_⟩ w79 ⟨hi80, H81⟩
     refine G.eq (M' := [(0, .slice A b.length c), (2, pt p3 0), (3, pt p9 0), (4, pt p13 0), (7, .slice B_ (b.length + 1 + padZ b.length + k) C_), (8, li (56 - 8 * (k : Int)))]) rfl ?_
     have hk8 := hi80
     refine G.seqK fun K82 hK83 => ?_
     refine G.sr fun K84 hK85 => ?_
     refine GL.r 2 2 [(0, .slice A b.length c), (2, pt p3 0), (3, pt p9 0), (4, pt p13 0), (7, .slice B_ (b.length + 1 + padZ b.length + k) C_), (8, li (56 - 8 * (k : Int))), (52, .bool (decide (0 ≤ (56 - 8 * (k : Int)))))] ?_
     refine GL.q hK85 ?_
     cases hb86 : (decide (0 ≤ (56 - 8 * (k : Int))))
     · skip
       have hb86f := of_decide_eq_false hb86
       refine G.no rfl ?_
       refine G.exitK hK75 (fun _ _ h => h) ?_
       refine G.seqK fun K87 hK88 => ?_
       refine G.sr fun K89 hK90 => ?_
       refine GL.r 1 1 [(2, pt p3 0), (3, pt p9 0), (4, pt p13 0), (7, .slice B_ (b.length + 1 + padZ b.length + k) C_), (9, li 0)] ?_
       refine GL.q hK90 ?_
       refine G.block ?_
       obtain rfl : k = 8 := by omega
       have H91 : Hp w [] [.blk p3 (by8 (bsP (outB (blocks (padM b) ((padM b).length / 64))) 32 0)) 50, .blk p9 (u32s KT) 119, .blk p13 [lw 1779033703, lw 3144134277, lw 1013904242, lw 2773480762, lw 1359893119, lw 2600822924, lw 528734635, lw 1541459225] 120, .row A27 64 c28 31 1 (dg PR), .row B_ (b.length + 1 + padZ b.length + 8) C_ 5 1 (by8 (padM b)), .row (some ⟨p53, 0, none⟩) 1 1 5 1 (by8 ([128] : List UInt8))] w79 := H81
       have hMp : (padM b).length = b.length + 1 + padZ b.length + 8 := by unfold padM; simp only [List.length_append, List.length_replicate, lenB_length, List.length_cons, List.length_nil]
       have hML : b.length + 1 + padZ b.length + 8 = 64 * ((padM b).length / 64) := by have e1 := padM_length b; omega
       have hz2 : padZ b.length < 64 := Nat.mod_lt _ (by decide)
       refine G.fit [2, 3, 4, 7, 9] (M' := [(2, pt p3 0), (3, pt p9 0), (4, pt p13 0), (7, .slice B_ (b.length + 1 + padZ b.length + 8) C_), (9, li 0)]) (by kernel_rfl) ?_
       refine G.eq (M' := [(2, pt p3 0), (3, pt p9 0), (4, pt p13 0), (7, .slice B_ (b.length + 1 + padZ b.length + 8) C_), (9, vi (64 * 0))]) (by rfl) ?_
       refine G.loop (X := Nat × Nat × Nat × Nat × Nat × Nat × Nat × Nat × Nat) (fun ⟨j, h0, h1, h2, h3, h4, h5, h6, h7⟩ => [(2, pt p3 0), (3, pt p9 0), (4, pt p13 0), (7, .slice B_ (b.length + 1 + padZ b.length + 8) C_), (9, vi (64 * j))]) (fun ⟨j, h0, h1, h2, h3, h4, h5, h6, h7⟩ w_ => (j ≤ ((padM b).length / 64) ∧ (h0, h1, h2, h3, h4, h5, h6, h7) = blocks (padM b) j) ∧ Hp w [] [.blk p3 (by8 (bsP (outB (blocks (padM b) ((padM b).length / 64))) 32 0)) 50, .blk p9 (u32s KT) 119, .blk p13 (c8 h0 h1 h2 h3 h4 h5 h6 h7) 120, .row A27 64 c28 31 1 (dg PR), .row B_ (b.length + 1 + padZ b.length + 8) C_ 5 1 (by8 (padM b)), .row (some ⟨p53, 0, none⟩) 1 1 5 1 (by8 ([128] : List UInt8))] w_) (fun ⟨j, h0, h1, h2, h3, h4, h5, h6, h7⟩ => ((padM b).length / 64) - j) ⟨0, 1779033703, 3144134277, 1013904242, 2773480762, 1359893119, 2600822924, 528734635, 1541459225⟩ [2, 3, 4, 7, 9] (by kernel_rfl) ⟨⟨Nat.zero_le _, rfl⟩, H91⟩ ?_
       rintro ⟨j, h0, h1, h2, h3, h4, h5, h6, h7⟩ w92 ⟨hi93, H94⟩
       refine G.eq (M' := [(2, pt p3 0), (3, pt p9 0), (4, pt p13 0), (7, .slice B_ (b.length + 1 + padZ b.length + 8) C_), (9, vi (64 * j))]) rfl ?_
       obtain ⟨hjM, hhv⟩ := hi93
       have ho8 := ok8_blocks (padM b) j
       rw [← hhv] at ho8
       have ⟨k0, k1, k2, k3, k4, k5, k6, k7⟩ := ho8
       refine G.seqK fun K95 hK96 => ?_
       refine G.sr fun K97 hK98 => ?_
       refine GL.r 4 4 [(2, pt p3 0), (3, pt p9 0), (4, pt p13 0), (7, .slice B_ (b.length + 1 + padZ b.length + 8) C_), (9, vi (64 * j)), (68, .bool (decide ((((64 * j) : Nat) : Int) < (((b.length + 1 + padZ b.length + 8) : Nat) : Int))))] ?_
       refine GL.q hK98 ?_
       cases hb99 : (decide ((((64 * j) : Nat) : Int) < (((b.length + 1 + padZ b.length + 8) : Nat) : Int)))
       · skip
         have hb99f := of_decide_eq_false hb99
         refine G.no rfl ?_
         refine G.exitK hK88 (fun _ _ h => h) ?_
         refine G.sr fun K100 hK101 => ?_
         refine GL.r 1 1 [(2, pt p3 0), (4, pt p13 0), (266, .agg (by8 (bsP (outB (blocks (padM b) ((padM b).length / 64))) 32 0)).toArray)] ?_
         obtain ⟨p102, w103, r104, H105⟩ := H94.alloc (P := Try.prog) 50 (by8 (bsP (outB (blocks (padM b) ((padM b).length / 64))) 32 0)) (by kernel_rfl)
         refine GL.s 2 (r104) [(2, pt p3 0), (4, pt p13 0), (16, pt p102 0), (266, .agg (by8 (bsP (outB (blocks (padM b) ((padM b).length / 64))) 32 0)).toArray)] ?_
         obtain ⟨w106, r107, H108⟩ := H105.stA (P := Try.prog) (o := 0) (vs := by8 (bsP (outB (blocks (padM b) ((padM b).length / 64))) 32 0)) (ty := 50) (m := 32) 6 rfl (by kernel_rfl) (by rw [by8_length, bsP_length (by omega)]) (Nat.le_of_eq (by rw [Nat.zero_add]; exact ((show (by8 (bsP (outB (blocks (padM b) ((padM b).length / 64))) 32 0)).length = 32 from by rw [by8_length, bsP_length (by omega)])).symm)) (by8_one _)
         rw [st_whole (by rw [by8_length, bsP_length (by omega)])] at H108
         have H108 : Hp w [] [.blk p3 (by8 (bsP (outB (blocks (padM b) ((padM b).length / 64))) 32 0)) 50, .blk p9 (u32s KT) 119, .blk p13 (c8 h0 h1 h2 h3 h4 h5 h6 h7) 120, .row A27 64 c28 31 1 (dg PR), .row B_ (b.length + 1 + padZ b.length + 8) C_ 5 1 (by8 (padM b)), .row (some ⟨p53, 0, none⟩) 1 1 5 1 (by8 ([128] : List UInt8)), .blk p102 (by8 (bsP (outB (blocks (padM b) ((padM b).length / 64))) 32 0)) 50] w106 := H108
         refine GL.u 3 r107 [(2, pt p3 0), (4, pt p13 0), (16, pt p102 0)] ?_
         refine GL.q hK101 ?_
         refine G.seqK fun K109 hK110 => ?_
         refine G.sr fun K111 hK112 => ?_
         refine GL.r 1 1 [(2, pt p3 0), (4, pt p13 0), (16, pt p102 0), (267, li 0)] ?_
         refine GL.q hK112 ?_
         refine G.block ?_
         have ej : j = ((padM b).length / 64) := by omega
         have hq : v8c (blocks (padM b) ((padM b).length / 64)) = v8c (h0, h1, h2, h3, h4, h5, h6, h7) := by rw [← ej, ← hhv]
         have H113 : Hp w [] [.blk p3 (by8 (bsP (outB (blocks (padM b) ((padM b).length / 64))) 32 0)) 50, .blk p9 (u32s KT) 119, .blk p13 (v8c (blocks (padM b) ((padM b).length / 64))) 120, .row A27 64 c28 31 1 (dg PR), .row B_ (b.length + 1 + padZ b.length + 8) C_ 5 1 (by8 (padM b)), .row (some ⟨p53, 0, none⟩) 1 1 5 1 (by8 ([128] : List UInt8)), .blk p102 (by8 (bsP (outB (blocks (padM b) ((padM b).length / 64))) 32 0)) 50] w106 := by rw [hq]; exact H108
         refine G.fit [2, 4, 16, 267] (M' := [(2, pt p3 0), (4, pt p13 0), (16, pt p102 0), (267, li 0)]) (by kernel_rfl) ?_
         refine G.loop (X := Nat) (fun i => [(2, pt p3 0), (4, pt p13 0), (16, pt p102 0), (267, vi i)]) (fun i w_ => (i ≤ 32) ∧ Hp w [] [.blk p3 (by8 (bsP (outB (blocks (padM b) ((padM b).length / 64))) 32 0)) 50, .blk p9 (u32s KT) 119, .blk p13 (v8c (blocks (padM b) ((padM b).length / 64))) 120, .row A27 64 c28 31 1 (dg PR), .row B_ (b.length + 1 + padZ b.length + 8) C_ 5 1 (by8 (padM b)), .row (some ⟨p53, 0, none⟩) 1 1 5 1 (by8 ([128] : List UInt8)), .blk p102 (by8 (bsP (outB (blocks (padM b) ((padM b).length / 64))) 32 i)) 50] w_) (fun i => 32 - i) 0 [2, 4, 16, 267] (by kernel_rfl) ⟨by omega, H113⟩ ?_
         rintro i w114 ⟨hi115, H116⟩
         refine G.eq (M' := [(2, pt p3 0), (4, pt p13 0), (16, pt p102 0), (267, vi i)]) rfl ?_
         have hi32 := hi115
         refine G.sr fun K117 hK118 => ?_
         refine GL.r 1 1 [(2, pt p3 0), (4, pt p13 0), (16, pt p102 0), (267, vi i), (268, .bool (decide ((i : Int) < 32)))] ?_
         refine GL.q hK118 ?_
         refine G.seqK fun K119 hK120 => ?_
         cases hb121 : (decide ((i : Int) < 32))
         · skip
           have hb121f := of_decide_eq_false hb121
           refine G.no rfl ?_
           refine G.exitK hK110 (fun _ _ h => h) ?_
           refine G.sr fun K122 hK123 => ?_
           refine GL.s 1 (H116.ldA (o := 0) (ty := 50) (m := 32) (sub := by8 (bsP (outB (blocks (padM b) ((padM b).length / 64))) 32 i)) 6 rfl (by kernel_rfl) (sub_whole (by rw [by8_length, bsP_length (by omega)])) (by rw [by8_length, bsP_length (by omega)])) [(2, pt p3 0), (283, .agg (by8 (bsP (outB (blocks (padM b) ((padM b).length / 64))) 32 i)).toArray)] ?_
           obtain ⟨w124, r125, H126⟩ := H116.stA (P := Try.prog) (o := 0) (vs := by8 (bsP (outB (blocks (padM b) ((padM b).length / 64))) 32 i)) (ty := 50) (m := 32) 0 rfl (by kernel_rfl) (by rw [by8_length, bsP_length (by omega)]) (Nat.le_of_eq (by rw [Nat.zero_add]; exact ((show (by8 (bsP (outB (blocks (padM b) ((padM b).length / 64))) 32 0)).length = 32 from by rw [by8_length, bsP_length (by omega)])).symm)) (by8_one _)
           rw [st_whole (by rw [by8_length, bsP_length (by omega)])] at H126
           have H126 : Hp w [] [.blk p3 (by8 (bsP (outB (blocks (padM b) ((padM b).length / 64))) 32 i)) 50, .blk p9 (u32s KT) 119, .blk p13 (v8c (blocks (padM b) ((padM b).length / 64))) 120, .row A27 64 c28 31 1 (dg PR), .row B_ (b.length + 1 + padZ b.length + 8) C_ 5 1 (by8 (padM b)), .row (some ⟨p53, 0, none⟩) 1 1 5 1 (by8 ([128] : List UInt8)), .blk p102 (by8 (bsP (outB (blocks (padM b) ((padM b).length / 64))) 32 i)) 50] w124 := H126
           refine GL.u 2 r125 [(2, pt p3 0)] ?_
           refine GL.q hK123 ?_
           refine G.ret fun F_ hF_ hM_ => hRet _ _ (bodyPost_1 rfl (RV.cell rfl (H126.ldA (o := 0) (ty := 50) (m := 32) (sub := by8 (bsP (outB (blocks (padM b) ((padM b).length / 64))) 32 i)) 0 rfl (by kernel_rfl) (sub_whole (by rw [by8_length, bsP_length (by omega)])) (by rw [by8_length, bsP_length (by omega)]))) ?_ F_ hF_ hM_)
           rw [show i = 32 by omega, bsP_all]
           exact ⟨rfl, H126.sub (List.nil_sublist _)⟩
         · skip
           have hb121f := of_decide_eq_true hb121
           refine G.yes rfl ?_
           refine G.skipK hK120 (fun _ _ h => h) ?_
           refine G.seqK fun K127 hK128 => ?_
           refine G.block ?_
           refine G.sr fun K129 hK130 => ?_
           refine GL.r 2 2 [(2, pt p3 0), (4, pt p13 0), (16, pt p102 0), (17, vi i), (267, vi i)] ?_
           refine GL.q hK130 ?_
           refine G.region ?_
           refine GL.r 3 3 [(2, pt p3 0), (4, pt p13 0), (16, pt p102 0), (17, vi i), (267, vi i), (270, vi i), (272, li (IntKind.i64.wrap (Int.tdiv (i : Int) 4)))] ?_
           have e131 : (IntKind.i64.wrap (Int.tdiv (i : Int) 4)) = ((i / 4 : Nat) : Int) := i_quo 4 (by omega)
           rw [e131]
           clear e131
           refine GL.s 4 (run_idxArr (P := Try.prog) (k := .i64) (t := 120) (len := 8) (sz := 1) (b := p13) (o := 0) (j := i / 4) (by kernel_rfl) rfl (by omega)) [(2, pt p3 0), (4, pt p13 0), (16, pt p102 0), (17, vi i), (267, vi i), (270, vi i), (273, pt p13 (0 + (i / 4) * 1))] ?_
           refine GL.s 5 (H116.ld (o := (0 + (i / 4) * 1)) (ty := 22) (v := vw (at8 (blocks (padM b) ((padM b).length / 64)) (i / 4))) 2 rfl (by kernel_rfl) (by rw [show (0 + (i / 4) * 1) = (i / 4) by omega]; exact v8c_at (by omega))) [(2, pt p3 0), (4, pt p13 0), (16, pt p102 0), (17, vi i), (267, vi i), (270, vi i), (274, vw (at8 (blocks (padM b) ((padM b).length / 64)) (i / 4)))] ?_
           refine GL.r 9 4 [(2, pt p3 0), (4, pt p13 0), (16, pt p102 0), (267, vi i), (270, vi i), (274, vw (at8 (blocks (padM b) ((padM b).length / 64)) (i / 4))), (278, li (IntKind.i64.wrap (24 - (IntKind.i64.wrap (8 * (Int.tmod (i : Int) 4))))))] ?_
           have e132 : (Int.tmod (i : Int) 4) = ((i % 4 : Nat) : Int) := n_rem _ 4
           have e133 : (IntKind.i64.wrap (8 * ((i % 4 : Nat) : Int))) = ((8 * (i % 4) : Nat) : Int) := by rw [in_i64 (by omega)]; omega
           have e134 : (IntKind.i64.wrap (24 - ((8 * (i % 4) : Nat) : Int))) = (((24 - 8 * (i % 4)) : Nat) : Int) := by rw [in_i64 (by omega)]; omega
           rw [e132, e133, e134]
           clear e132 e133 e134
           refine GL.s 10 (run_shr32 (P := Try.prog) (k' := .i64) (t := 22) (a := (at8 (blocks (padM b) ((padM b).length / 64)) (i / 4))) (r := (24 - 8 * (i % 4))) (by omega) _) [(2, pt p3 0), (4, pt p13 0), (16, pt p102 0), (267, vi i), (270, vi i), (279, vw ((at8 (blocks (padM b) ((padM b).length / 64)) (i / 4)) / 2 ^ (24 - 8 * (i % 4))))] ?_
           refine GL.r 11 1 [(2, pt p3 0), (4, pt p13 0), (16, pt p102 0), (267, vi i), (270, vi i), (280, lb (IntKind.u8.wrap ((((at8 (blocks (padM b) ((padM b).length / 64)) (i / 4)) / 2 ^ (24 - 8 * (i % 4))) : Nat) : Int)))] ?_
           have e135 : (IntKind.u8.wrap ((((at8 (blocks (padM b) ((padM b).length / 64)) (i / 4)) / 2 ^ (24 - 8 * (i % 4))) : Nat) : Int)) = (((UInt8.ofNat ((at8 (blocks (padM b) ((padM b).length / 64)) (i / 4)) / 2 ^ (24 - 8 * (i % 4)))).toNat : Nat) : Int) := n_byte _
           rw [e135]
           clear e135
           refine GL.s 12 (run_idxArr (P := Try.prog) (k := .i64) (t := 50) (len := 32) (sz := 1) (b := p102) (o := 0) (j := i) (by kernel_rfl) rfl (by omega)) [(2, pt p3 0), (4, pt p13 0), (16, pt p102 0), (267, vi i), (280, lb (((UInt8.ofNat ((at8 (blocks (padM b) ((padM b).length / 64)) (i / 4)) / 2 ^ (24 - 8 * (i % 4)))).toNat : Nat) : Int)), (281, pt p102 (0 + i * 1))] ?_
           obtain ⟨w136, r137, H138⟩ := H116.st (P := Try.prog) (o := (0 + i * 1)) (ty := 5) (v := .int .u8 (((UInt8.ofNat ((at8 (blocks (padM b) ((padM b).length / 64)) (i / 4)) / 2 ^ (24 - 8 * (i % 4)))).toNat : Nat) : Int)) 6 rfl (by kernel_rfl) (by rw [by8_length, bsP_length (by omega)]; omega) rfl
           rw [show (0 + i * 1) = i by omega, by8_set] at H138
           have H138 : Hp w [] [.blk p3 (by8 (bsP (outB (blocks (padM b) ((padM b).length / 64))) 32 0)) 50, .blk p9 (u32s KT) 119, .blk p13 (v8c (blocks (padM b) ((padM b).length / 64))) 120, .row A27 64 c28 31 1 (dg PR), .row B_ (b.length + 1 + padZ b.length + 8) C_ 5 1 (by8 (padM b)), .row (some ⟨p53, 0, none⟩) 1 1 5 1 (by8 ([128] : List UInt8)), .blk p102 (by8 (List.set (bsP (outB (blocks (padM b) ((padM b).length / 64))) 32 i) i (UInt8.ofNat ((at8 (blocks (padM b) ((padM b).length / 64)) (i / 4)) / 2 ^ (24 - 8 * (i % 4)))))) 50] w136 := H138
           refine GL.u 13 r137 [(2, pt p3 0), (4, pt p13 0), (16, pt p102 0), (267, vi i)] ?_
           refine GL.q hK128 ?_
           refine G.region ?_
           refine GL.r 2 2 [(2, pt p3 0), (4, pt p13 0), (16, pt p102 0), (267, li (IntKind.i64.wrap ((i : Int) + 1)))] ?_
           have e139 : (IntKind.i64.wrap ((i : Int) + 1)) = ((i + 1 : Nat) : Int) := by rw [in_i64 (by omega)]; omega
           rw [e139]
           clear e139
           have H140 : Hp w [] [.blk p3 (by8 (bsP (outB (blocks (padM b) ((padM b).length / 64))) 32 0)) 50, .blk p9 (u32s KT) 119, .blk p13 (v8c (blocks (padM b) ((padM b).length / 64))) 120, .row A27 64 c28 31 1 (dg PR), .row B_ (b.length + 1 + padZ b.length + 8) C_ 5 1 (by8 (padM b)), .row (some ⟨p53, 0, none⟩) 1 1 5 1 (by8 ([128] : List UInt8)), .blk p102 (by8 (bsP (outB (blocks (padM b) ((padM b).length / 64))) 32 (i + 1))) 50] w136 := by rw [← bsP_set (F := outB (blocks (padM b) ((padM b).length / 64))) (n := 32) (i := i) (v := (UInt8.ofNat ((at8 (blocks (padM b) ((padM b).length / 64)) (i / 4)) / 2 ^ (24 - 8 * (i % 4))))) (by omega) rfl]; exact H138
           refine GL.fit (ts := [2, 4, 16, 267]) (M' := [(2, pt p3 0), (4, pt p13 0), (16, pt p102 0), (267, vi (i + 1))]) (by kernel_rfl) ?_
           refine GL.eq (M' := [(2, pt p3 0), (4, pt p13 0), (16, pt p102 0), (267, vi (i + 1))]) (by rfl) ?_
           exact GL.again (i + 1) [2, 4, 16, 267] rfl (by kernel_rfl) (by show 32 - (i + 1) < 32 - i; omega) ⟨by omega, H140⟩
       · skip
         have hb99f := of_decide_eq_true hb99
         obtain ⟨p, hp⟩ : ∃ p, p = ((padM b).drop (64 * j)).take 64 := ⟨_, rfl⟩
         refine G.yes rfl ?_
         refine G.skipK hK96 (fun _ _ h => h) ?_
         refine G.seqK fun K141 hK142 => ?_
         refine G.block ?_
         refine G.sr fun K143 hK144 => ?_
         refine GL.r 1 1 [(2, pt p3 0), (3, pt p9 0), (4, pt p13 0), (7, .slice B_ (b.length + 1 + padZ b.length + 8) C_), (9, vi (64 * j)), (71, .agg (u32s (wsP p 0)).toArray)] ?_
         obtain ⟨p145, w146, r147, H148⟩ := H94.alloc (P := Try.prog) 119 (u32s (wsP p 0)) (by kernel_rfl)
         refine GL.s 2 (r147) [(2, pt p3 0), (3, pt p9 0), (4, pt p13 0), (7, .slice B_ (b.length + 1 + padZ b.length + 8) C_), (9, vi (64 * j)), (10, pt p145 0), (71, .agg (u32s (wsP p 0)).toArray)] ?_
         obtain ⟨w149, r150, H151⟩ := H148.stA (P := Try.prog) (o := 0) (vs := u32s (wsP p 0)) (ty := 119) (m := 64) 6 rfl (by kernel_rfl) rfl (by rw [u32s_length, wsP_length (by omega)]; omega) (u32s_one _)
         rw [st_whole (by rw [u32s_length, wsP_length (by omega)])] at H151
         have H151 : Hp w [] [.blk p3 (by8 (bsP (outB (blocks (padM b) ((padM b).length / 64))) 32 0)) 50, .blk p9 (u32s KT) 119, .blk p13 (c8 h0 h1 h2 h3 h4 h5 h6 h7) 120, .row A27 64 c28 31 1 (dg PR), .row B_ (b.length + 1 + padZ b.length + 8) C_ 5 1 (by8 (padM b)), .row (some ⟨p53, 0, none⟩) 1 1 5 1 (by8 ([128] : List UInt8)), .blk p145 (u32s (wsP p 0)) 119] w149 := H151
         refine GL.u 3 r150 [(2, pt p3 0), (3, pt p9 0), (4, pt p13 0), (7, .slice B_ (b.length + 1 + padZ b.length + 8) C_), (9, vi (64 * j)), (10, pt p145 0)] ?_
         refine GL.q hK144 ?_
         refine G.sr fun K152 hK153 => ?_
         refine GL.s 1 (H151.ldA (o := 0) (ty := 120) (m := 8) (sub := (c8 h0 h1 h2 h3 h4 h5 h6 h7)) 2 rfl (by kernel_rfl) rfl rfl) [(2, pt p3 0), (3, pt p9 0), (4, pt p13 0), (7, .slice B_ (b.length + 1 + padZ b.length + 8) C_), (9, vi (64 * j)), (10, pt p145 0), (72, .agg #[vw h0, vw h1, vw h2, vw h3, vw h4, vw h5, vw h6, vw h7])] ?_
         obtain ⟨p154, w155, r156, H157⟩ := H151.alloc (P := Try.prog) 120 lz2 (by kernel_rfl)
         refine GL.s 2 (r156) [(2, pt p3 0), (3, pt p9 0), (4, pt p13 0), (7, .slice B_ (b.length + 1 + padZ b.length + 8) C_), (9, vi (64 * j)), (10, pt p145 0), (11, pt p154 0), (72, .agg #[vw h0, vw h1, vw h2, vw h3, vw h4, vw h5, vw h6, vw h7])] ?_
         obtain ⟨w158, r159, H160⟩ := H157.stA (P := Try.prog) (o := 0) (vs := (c8 h0 h1 h2 h3 h4 h5 h6 h7)) (ty := 120) (m := 8) 7 rfl (by kernel_rfl) rfl (by exact Nat.le_refl _) (c8_one)
         refine GL.u 3 r159 [(2, pt p3 0), (3, pt p9 0), (4, pt p13 0), (7, .slice B_ (b.length + 1 + padZ b.length + 8) C_), (9, vi (64 * j)), (10, pt p145 0), (11, pt p154 0)] ?_
         refine GL.q hK153 ?_
         refine G.seqK fun K161 hK162 => ?_
         refine G.sr fun K163 hK164 => ?_
         refine GL.r 1 1 [(2, pt p3 0), (3, pt p9 0), (4, pt p13 0), (7, .slice B_ (b.length + 1 + padZ b.length + 8) C_), (9, vi (64 * j)), (10, pt p145 0), (11, pt p154 0), (12, li 0)] ?_
         refine GL.q hK164 ?_
         refine G.block ?_
         refine G.fit [2, 3, 4, 7, 9, 10, 11, 12] (M' := [(2, pt p3 0), (3, pt p9 0), (4, pt p13 0), (7, .slice B_ (b.length + 1 + padZ b.length + 8) C_), (9, vi (64 * j)), (10, pt p145 0), (11, pt p154 0), (12, li 0)]) (by kernel_rfl) ?_
         refine G.loop (X := Nat × Nat × Nat × Nat × Nat × Nat × Nat × Nat × Nat) (fun ⟨t, a, b_, c_, d, e, f, g, h⟩ => [(2, pt p3 0), (3, pt p9 0), (4, pt p13 0), (7, .slice B_ (b.length + 1 + padZ b.length + 8) C_), (9, vi (64 * j)), (10, pt p145 0), (11, pt p154 0), (12, vi t)]) (fun ⟨t, a, b_, c_, d, e, f, g, h⟩ w_ => (t ≤ 64 ∧ (a, b_, c_, d, e, f, g, h) = shaR p (h0, h1, h2, h3, h4, h5, h6, h7) t) ∧ Hp w [] [.blk p3 (by8 (bsP (outB (blocks (padM b) ((padM b).length / 64))) 32 0)) 50, .blk p9 (u32s KT) 119, .blk p13 (c8 h0 h1 h2 h3 h4 h5 h6 h7) 120, .row A27 64 c28 31 1 (dg PR), .row B_ (b.length + 1 + padZ b.length + 8) C_ 5 1 (by8 (padM b)), .row (some ⟨p53, 0, none⟩) 1 1 5 1 (by8 ([128] : List UInt8)), .blk p145 (u32s (wsP p t)) 119, .blk p154 (c8 a b_ c_ d e f g h) 120] w_) (fun ⟨t, a, b_, c_, d, e, f, g, h⟩ => 64 - t) ⟨0, h0, h1, h2, h3, h4, h5, h6, h7⟩ [2, 3, 4, 7, 9, 10, 11, 12] (by kernel_rfl) ⟨⟨by omega, rfl⟩, H160⟩ ?_
         rintro ⟨t, a, b_, c_, d, e, f, g, h⟩ w165 ⟨hi166, H167⟩
         refine G.eq (M' := [(2, pt p3 0), (3, pt p9 0), (4, pt p13 0), (7, .slice B_ (b.length + 1 + padZ b.length + 8) C_), (9, vi (64 * j)), (10, pt p145 0), (11, pt p154 0), (12, vi t)]) rfl ?_
         have ht64 := hi166.1
         have hv8 := hi166.2
         have hr8 := ok8_rounds (p := p) ho8 t
         rw [← hv8] at hr8
         obtain ⟨g0, g1, g2, g3, g4, g5, g6, g7⟩ := hr8
         refine G.seqK fun K168 hK169 => ?_
         refine G.sr fun K170 hK171 => ?_
         refine GL.r 2 2 [(2, pt p3 0), (3, pt p9 0), (4, pt p13 0), (7, .slice B_ (b.length + 1 + padZ b.length + 8) C_), (9, vi (64 * j)), (10, pt p145 0), (11, pt p154 0), (12, vi t), (74, .bool (decide ((t : Int) < 64)))] ?_
         refine GL.q hK171 ?_
         cases hb172 : (decide ((t : Int) < 64))
         · skip
           have hb172f := of_decide_eq_false hb172
           refine G.no rfl ?_
           refine G.exitK hK162 (fun _ _ h => h) ?_
           refine G.sr fun K173 hK174 => ?_
           refine GL.r 1 1 [(2, pt p3 0), (3, pt p9 0), (4, pt p13 0), (7, .slice B_ (b.length + 1 + padZ b.length + 8) C_), (9, vi (64 * j)), (11, pt p154 0), (253, li 0)] ?_
           refine GL.q hK174 ?_
           refine G.block ?_
           refine G.unroll 9 ?_
           refine G.sr fun K175 hK176 => ?_
           refine GL.r 1 1 [(2, pt p3 0), (3, pt p9 0), (4, pt p13 0), (7, .slice B_ (b.length + 1 + padZ b.length + 8) C_), (9, vi (64 * j)), (11, pt p154 0), (253, li 0), (254, .bool true)] ?_
           refine GL.q hK176 ?_
           refine G.seqK fun K177 hK178 => ?_
           refine G.yes rfl ?_
           refine G.skipK hK178 (fun _ _ h => h) ?_
           refine G.seqK fun K179 hK180 => ?_
           refine G.block ?_
           refine G.sr fun K181 hK182 => ?_
           refine GL.r 2 2 [(2, pt p3 0), (3, pt p9 0), (4, pt p13 0), (7, .slice B_ (b.length + 1 + padZ b.length + 8) C_), (9, vi (64 * j)), (11, pt p154 0), (15, li 0), (253, li 0)] ?_
           refine GL.q hK182 ?_
           refine G.tail 9 (by kernel_rfl) (by kernel_rfl) ?_
           have H183 := H167.drew
           generalize ({ w165 with drawn := w165.drawn + 1 } : World) = w184 at H183 ⊢
           refine GS.r 3 3 [(2, pt p3 0), (3, pt p9 0), (4, pt p13 0), (7, .slice B_ (b.length + 1 + padZ b.length + 8) C_), (9, vi (64 * j)), (11, pt p154 0), (15, li 0), (253, li 0), (256, li 0), (258, pt p13 0)] ?_
           refine GS.s 4 (H183.ld (o := 0) (ty := 22) (v := vw h0) 2 rfl (by kernel_rfl) rfl) [(2, pt p3 0), (3, pt p9 0), (4, pt p13 0), (7, .slice B_ (b.length + 1 + padZ b.length + 8) C_), (9, vi (64 * j)), (11, pt p154 0), (15, li 0), (253, li 0), (256, li 0), (259, vw h0)] ?_
           refine GS.r 6 2 [(2, pt p3 0), (3, pt p9 0), (4, pt p13 0), (7, .slice B_ (b.length + 1 + padZ b.length + 8) C_), (9, vi (64 * j)), (11, pt p154 0), (253, li 0), (256, li 0), (259, vw h0), (261, pt p154 0)] ?_
           refine GS.s 7 (H183.ld (o := 0) (ty := 22) (v := vw a) 7 rfl (by kernel_rfl) rfl) [(2, pt p3 0), (3, pt p9 0), (4, pt p13 0), (7, .slice B_ (b.length + 1 + padZ b.length + 8) C_), (9, vi (64 * j)), (11, pt p154 0), (253, li 0), (256, li 0), (259, vw h0), (262, vw a)] ?_
           refine GS.r 9 2 [(2, pt p3 0), (3, pt p9 0), (4, pt p13 0), (7, .slice B_ (b.length + 1 + padZ b.length + 8) C_), (9, vi (64 * j)), (11, pt p154 0), (253, li 0), (263, lw (IntKind.u32.wrap ((h0 : Int) + (a : Int)))), (264, pt p13 0)] ?_
           have e185 : (IntKind.u32.wrap ((h0 : Int) + (a : Int))) = (((h0 + a) % W32 : Nat) : Int) := w_add _ _
           rw [e185]
           clear e185
           refine GS.tail rfl ?_
           obtain ⟨w186, r187, H188⟩ := H183.st (P := Try.prog) (o := 0) (ty := 22) (v := vw ((h0 + a) % W32)) 2 rfl (by kernel_rfl) (by show 0 < 8; decide) rfl
           refine GL.u 10 r187 [(2, pt p3 0), (3, pt p9 0), (4, pt p13 0), (7, .slice B_ (b.length + 1 + padZ b.length + 8) C_), (9, vi (64 * j)), (11, pt p154 0), (253, li 0)] ?_
           refine GL.q hK180 ?_
           refine G.region ?_
           refine GL.r 2 2 [(2, pt p3 0), (3, pt p9 0), (4, pt p13 0), (7, .slice B_ (b.length + 1 + padZ b.length + 8) C_), (9, vi (64 * j)), (11, pt p154 0), (253, li 1)] ?_
           refine GL.round rfl ?_
           refine G.sr fun K189 hK190 => ?_
           refine GL.r 1 1 [(2, pt p3 0), (3, pt p9 0), (4, pt p13 0), (7, .slice B_ (b.length + 1 + padZ b.length + 8) C_), (9, vi (64 * j)), (11, pt p154 0), (253, li 1), (254, .bool true)] ?_
           refine GL.q hK190 ?_
           refine G.seqK fun K191 hK192 => ?_
           refine G.yes rfl ?_
           refine G.skipK hK192 (fun _ _ h => h) ?_
           refine G.seqK fun K193 hK194 => ?_
           refine G.block ?_
           refine G.sr fun K195 hK196 => ?_
           refine GL.r 2 2 [(2, pt p3 0), (3, pt p9 0), (4, pt p13 0), (7, .slice B_ (b.length + 1 + padZ b.length + 8) C_), (9, vi (64 * j)), (11, pt p154 0), (15, li 1), (253, li 1)] ?_
           refine GL.q hK196 ?_
           refine G.tail 9 (by kernel_rfl) (by kernel_rfl) ?_
           have H197 := H188.drew
           generalize ({ w186 with drawn := w186.drawn + 1 } : World) = w198 at H197 ⊢
           refine GS.r 3 3 [(2, pt p3 0), (3, pt p9 0), (4, pt p13 0), (7, .slice B_ (b.length + 1 + padZ b.length + 8) C_), (9, vi (64 * j)), (11, pt p154 0), (15, li 1), (253, li 1), (256, li 1), (258, pt p13 1)] ?_
           refine GS.s 4 (H197.ld (o := 1) (ty := 22) (v := vw h1) 2 rfl (by kernel_rfl) rfl) [(2, pt p3 0), (3, pt p9 0), (4, pt p13 0), (7, .slice B_ (b.length + 1 + padZ b.length + 8) C_), (9, vi (64 * j)), (11, pt p154 0), (15, li 1), (253, li 1), (256, li 1), (259, vw h1)] ?_
           refine GS.r 6 2 [(2, pt p3 0), (3, pt p9 0), (4, pt p13 0), (7, .slice B_ (b.length + 1 + padZ b.length + 8) C_), (9, vi (64 * j)), (11, pt p154 0), (253, li 1), (256, li 1), (259, vw h1), (261, pt p154 1)] ?_
           refine GS.s 7 (H197.ld (o := 1) (ty := 22) (v := vw b_) 7 rfl (by kernel_rfl) rfl) [(2, pt p3 0), (3, pt p9 0), (4, pt p13 0), (7, .slice B_ (b.length + 1 + padZ b.length + 8) C_), (9, vi (64 * j)), (11, pt p154 0), (253, li 1), (256, li 1), (259, vw h1), (262, vw b_)] ?_
           refine GS.r 9 2 [(2, pt p3 0), (3, pt p9 0), (4, pt p13 0), (7, .slice B_ (b.length + 1 + padZ b.length + 8) C_), (9, vi (64 * j)), (11, pt p154 0), (253, li 1), (263, lw (IntKind.u32.wrap ((h1 : Int) + (b_ : Int)))), (264, pt p13 1)] ?_
           have e199 : (IntKind.u32.wrap ((h1 : Int) + (b_ : Int))) = (((h1 + b_) % W32 : Nat) : Int) := w_add _ _
           rw [e199]
           clear e199
           refine GS.tail rfl ?_
           obtain ⟨w200, r201, H202⟩ := H197.st (P := Try.prog) (o := 1) (ty := 22) (v := vw ((h1 + b_) % W32)) 2 rfl (by kernel_rfl) (by show 1 < 8; decide) rfl
           refine GL.u 10 r201 [(2, pt p3 0), (3, pt p9 0), (4, pt p13 0), (7, .slice B_ (b.length + 1 + padZ b.length + 8) C_), (9, vi (64 * j)), (11, pt p154 0), (253, li 1)] ?_
           refine GL.q hK194 ?_
           refine G.region ?_
           refine GL.r 2 2 [(2, pt p3 0), (3, pt p9 0), (4, pt p13 0), (7, .slice B_ (b.length + 1 + padZ b.length + 8) C_), (9, vi (64 * j)), (11, pt p154 0), (253, li 2)] ?_
           refine GL.round rfl ?_
           refine G.sr fun K203 hK204 => ?_
           refine GL.r 1 1 [(2, pt p3 0), (3, pt p9 0), (4, pt p13 0), (7, .slice B_ (b.length + 1 + padZ b.length + 8) C_), (9, vi (64 * j)), (11, pt p154 0), (253, li 2), (254, .bool true)] ?_
           refine GL.q hK204 ?_
           refine G.seqK fun K205 hK206 => ?_
           refine G.yes rfl ?_
           refine G.skipK hK206 (fun _ _ h => h) ?_
           refine G.seqK fun K207 hK208 => ?_
           refine G.block ?_
           refine G.sr fun K209 hK210 => ?_
           refine GL.r 2 2 [(2, pt p3 0), (3, pt p9 0), (4, pt p13 0), (7, .slice B_ (b.length + 1 + padZ b.length + 8) C_), (9, vi (64 * j)), (11, pt p154 0), (15, li 2), (253, li 2)] ?_
           refine GL.q hK210 ?_
           refine G.tail 9 (by kernel_rfl) (by kernel_rfl) ?_
           have H211 := H202.drew
           generalize ({ w200 with drawn := w200.drawn + 1 } : World) = w212 at H211 ⊢
           refine GS.r 3 3 [(2, pt p3 0), (3, pt p9 0), (4, pt p13 0), (7, .slice B_ (b.length + 1 + padZ b.length + 8) C_), (9, vi (64 * j)), (11, pt p154 0), (15, li 2), (253, li 2), (256, li 2), (258, pt p13 2)] ?_
           refine GS.s 4 (H211.ld (o := 2) (ty := 22) (v := vw h2) 2 rfl (by kernel_rfl) rfl) [(2, pt p3 0), (3, pt p9 0), (4, pt p13 0), (7, .slice B_ (b.length + 1 + padZ b.length + 8) C_), (9, vi (64 * j)), (11, pt p154 0), (15, li 2), (253, li 2), (256, li 2), (259, vw h2)] ?_
           refine GS.r 6 2 [(2, pt p3 0), (3, pt p9 0), (4, pt p13 0), (7, .slice B_ (b.length + 1 + padZ b.length + 8) C_), (9, vi (64 * j)), (11, pt p154 0), (253, li 2), (256, li 2), (259, vw h2), (261, pt p154 2)] ?_
           refine GS.s 7 (H211.ld (o := 2) (ty := 22) (v := vw c_) 7 rfl (by kernel_rfl) rfl) [(2, pt p3 0), (3, pt p9 0), (4, pt p13 0), (7, .slice B_ (b.length + 1 + padZ b.length + 8) C_), (9, vi (64 * j)), (11, pt p154 0), (253, li 2), (256, li 2), (259, vw h2), (262, vw c_)] ?_
           refine GS.r 9 2 [(2, pt p3 0), (3, pt p9 0), (4, pt p13 0), (7, .slice B_ (b.length + 1 + padZ b.length + 8) C_), (9, vi (64 * j)), (11, pt p154 0), (253, li 2), (263, lw (IntKind.u32.wrap ((h2 : Int) + (c_ : Int)))), (264, pt p13 2)] ?_
           have e213 : (IntKind.u32.wrap ((h2 : Int) + (c_ : Int))) = (((h2 + c_) % W32 : Nat) : Int) := w_add _ _
           rw [e213]
           clear e213
           refine GS.tail rfl ?_
           obtain ⟨w214, r215, H216⟩ := H211.st (P := Try.prog) (o := 2) (ty := 22) (v := vw ((h2 + c_) % W32)) 2 rfl (by kernel_rfl) (by show 2 < 8; decide) rfl
           refine GL.u 10 r215 [(2, pt p3 0), (3, pt p9 0), (4, pt p13 0), (7, .slice B_ (b.length + 1 + padZ b.length + 8) C_), (9, vi (64 * j)), (11, pt p154 0), (253, li 2)] ?_
           refine GL.q hK208 ?_
           refine G.region ?_
           refine GL.r 2 2 [(2, pt p3 0), (3, pt p9 0), (4, pt p13 0), (7, .slice B_ (b.length + 1 + padZ b.length + 8) C_), (9, vi (64 * j)), (11, pt p154 0), (253, li 3)] ?_
           refine GL.round rfl ?_
           refine G.sr fun K217 hK218 => ?_
           refine GL.r 1 1 [(2, pt p3 0), (3, pt p9 0), (4, pt p13 0), (7, .slice B_ (b.length + 1 + padZ b.length + 8) C_), (9, vi (64 * j)), (11, pt p154 0), (253, li 3), (254, .bool true)] ?_
           refine GL.q hK218 ?_
           refine G.seqK fun K219 hK220 => ?_
           refine G.yes rfl ?_
           refine G.skipK hK220 (fun _ _ h => h) ?_
           refine G.seqK fun K221 hK222 => ?_
           refine G.block ?_
           refine G.sr fun K223 hK224 => ?_
           refine GL.r 2 2 [(2, pt p3 0), (3, pt p9 0), (4, pt p13 0), (7, .slice B_ (b.length + 1 + padZ b.length + 8) C_), (9, vi (64 * j)), (11, pt p154 0), (15, li 3), (253, li 3)] ?_
           refine GL.q hK224 ?_
           refine G.tail 9 (by kernel_rfl) (by kernel_rfl) ?_
           have H225 := H216.drew
           generalize ({ w214 with drawn := w214.drawn + 1 } : World) = w226 at H225 ⊢
           refine GS.r 3 3 [(2, pt p3 0), (3, pt p9 0), (4, pt p13 0), (7, .slice B_ (b.length + 1 + padZ b.length + 8) C_), (9, vi (64 * j)), (11, pt p154 0), (15, li 3), (253, li 3), (256, li 3), (258, pt p13 3)] ?_
           refine GS.s 4 (H225.ld (o := 3) (ty := 22) (v := vw h3) 2 rfl (by kernel_rfl) rfl) [(2, pt p3 0), (3, pt p9 0), (4, pt p13 0), (7, .slice B_ (b.length + 1 + padZ b.length + 8) C_), (9, vi (64 * j)), (11, pt p154 0), (15, li 3), (253, li 3), (256, li 3), (259, vw h3)] ?_
           refine GS.r 6 2 [(2, pt p3 0), (3, pt p9 0), (4, pt p13 0), (7, .slice B_ (b.length + 1 + padZ b.length + 8) C_), (9, vi (64 * j)), (11, pt p154 0), (253, li 3), (256, li 3), (259, vw h3), (261, pt p154 3)] ?_
           refine GS.s 7 (H225.ld (o := 3) (ty := 22) (v := vw d) 7 rfl (by kernel_rfl) rfl) [(2, pt p3 0), (3, pt p9 0), (4, pt p13 0), (7, .slice B_ (b.length + 1 + padZ b.length + 8) C_), (9, vi (64 * j)), (11, pt p154 0), (253, li 3), (256, li 3), (259, vw h3), (262, vw d)] ?_
           refine GS.r 9 2 [(2, pt p3 0), (3, pt p9 0), (4, pt p13 0), (7, .slice B_ (b.length + 1 + padZ b.length + 8) C_), (9, vi (64 * j)), (11, pt p154 0), (253, li 3), (263, lw (IntKind.u32.wrap ((h3 : Int) + (d : Int)))), (264, pt p13 3)] ?_
           have e227 : (IntKind.u32.wrap ((h3 : Int) + (d : Int))) = (((h3 + d) % W32 : Nat) : Int) := w_add _ _
           rw [e227]
           clear e227
           refine GS.tail rfl ?_
           obtain ⟨w228, r229, H230⟩ := H225.st (P := Try.prog) (o := 3) (ty := 22) (v := vw ((h3 + d) % W32)) 2 rfl (by kernel_rfl) (by show 3 < 8; decide) rfl
           refine GL.u 10 r229 [(2, pt p3 0), (3, pt p9 0), (4, pt p13 0), (7, .slice B_ (b.length + 1 + padZ b.length + 8) C_), (9, vi (64 * j)), (11, pt p154 0), (253, li 3)] ?_
           refine GL.q hK222 ?_
           refine G.region ?_
           refine GL.r 2 2 [(2, pt p3 0), (3, pt p9 0), (4, pt p13 0), (7, .slice B_ (b.length + 1 + padZ b.length + 8) C_), (9, vi (64 * j)), (11, pt p154 0), (253, li 4)] ?_
           refine GL.round rfl ?_
           refine G.sr fun K231 hK232 => ?_
           refine GL.r 1 1 [(2, pt p3 0), (3, pt p9 0), (4, pt p13 0), (7, .slice B_ (b.length + 1 + padZ b.length + 8) C_), (9, vi (64 * j)), (11, pt p154 0), (253, li 4), (254, .bool true)] ?_
           refine GL.q hK232 ?_
           refine G.seqK fun K233 hK234 => ?_
           refine G.yes rfl ?_
           refine G.skipK hK234 (fun _ _ h => h) ?_
           refine G.seqK fun K235 hK236 => ?_
           refine G.block ?_
           refine G.sr fun K237 hK238 => ?_
           refine GL.r 2 2 [(2, pt p3 0), (3, pt p9 0), (4, pt p13 0), (7, .slice B_ (b.length + 1 + padZ b.length + 8) C_), (9, vi (64 * j)), (11, pt p154 0), (15, li 4), (253, li 4)] ?_
           refine GL.q hK238 ?_
           refine G.tail 9 (by kernel_rfl) (by kernel_rfl) ?_
           have H239 := H230.drew
           generalize ({ w228 with drawn := w228.drawn + 1 } : World) = w240 at H239 ⊢
           refine GS.r 3 3 [(2, pt p3 0), (3, pt p9 0), (4, pt p13 0), (7, .slice B_ (b.length + 1 + padZ b.length + 8) C_), (9, vi (64 * j)), (11, pt p154 0), (15, li 4), (253, li 4), (256, li 4), (258, pt p13 4)] ?_
           refine GS.s 4 (H239.ld (o := 4) (ty := 22) (v := vw h4) 2 rfl (by kernel_rfl) rfl) [(2, pt p3 0), (3, pt p9 0), (4, pt p13 0), (7, .slice B_ (b.length + 1 + padZ b.length + 8) C_), (9, vi (64 * j)), (11, pt p154 0), (15, li 4), (253, li 4), (256, li 4), (259, vw h4)] ?_
           refine GS.r 6 2 [(2, pt p3 0), (3, pt p9 0), (4, pt p13 0), (7, .slice B_ (b.length + 1 + padZ b.length + 8) C_), (9, vi (64 * j)), (11, pt p154 0), (253, li 4), (256, li 4), (259, vw h4), (261, pt p154 4)] ?_
           refine GS.s 7 (H239.ld (o := 4) (ty := 22) (v := vw e) 7 rfl (by kernel_rfl) rfl) [(2, pt p3 0), (3, pt p9 0), (4, pt p13 0), (7, .slice B_ (b.length + 1 + padZ b.length + 8) C_), (9, vi (64 * j)), (11, pt p154 0), (253, li 4), (256, li 4), (259, vw h4), (262, vw e)] ?_
           refine GS.r 9 2 [(2, pt p3 0), (3, pt p9 0), (4, pt p13 0), (7, .slice B_ (b.length + 1 + padZ b.length + 8) C_), (9, vi (64 * j)), (11, pt p154 0), (253, li 4), (263, lw (IntKind.u32.wrap ((h4 : Int) + (e : Int)))), (264, pt p13 4)] ?_
           have e241 : (IntKind.u32.wrap ((h4 : Int) + (e : Int))) = (((h4 + e) % W32 : Nat) : Int) := w_add _ _
           rw [e241]
           clear e241
           refine GS.tail rfl ?_
           obtain ⟨w242, r243, H244⟩ := H239.st (P := Try.prog) (o := 4) (ty := 22) (v := vw ((h4 + e) % W32)) 2 rfl (by kernel_rfl) (by show 4 < 8; decide) rfl
           refine GL.u 10 r243 [(2, pt p3 0), (3, pt p9 0), (4, pt p13 0), (7, .slice B_ (b.length + 1 + padZ b.length + 8) C_), (9, vi (64 * j)), (11, pt p154 0), (253, li 4)] ?_
           refine GL.q hK236 ?_
           refine G.region ?_
           refine GL.r 2 2 [(2, pt p3 0), (3, pt p9 0), (4, pt p13 0), (7, .slice B_ (b.length + 1 + padZ b.length + 8) C_), (9, vi (64 * j)), (11, pt p154 0), (253, li 5)] ?_
           refine GL.round rfl ?_
           refine G.sr fun K245 hK246 => ?_
           refine GL.r 1 1 [(2, pt p3 0), (3, pt p9 0), (4, pt p13 0), (7, .slice B_ (b.length + 1 + padZ b.length + 8) C_), (9, vi (64 * j)), (11, pt p154 0), (253, li 5), (254, .bool true)] ?_
           refine GL.q hK246 ?_
           refine G.seqK fun K247 hK248 => ?_
           refine G.yes rfl ?_
           refine G.skipK hK248 (fun _ _ h => h) ?_
           refine G.seqK fun K249 hK250 => ?_
           refine G.block ?_
           refine G.sr fun K251 hK252 => ?_
           refine GL.r 2 2 [(2, pt p3 0), (3, pt p9 0), (4, pt p13 0), (7, .slice B_ (b.length + 1 + padZ b.length + 8) C_), (9, vi (64 * j)), (11, pt p154 0), (15, li 5), (253, li 5)] ?_
           refine GL.q hK252 ?_
           refine G.tail 9 (by kernel_rfl) (by kernel_rfl) ?_
           have H253 := H244.drew
           generalize ({ w242 with drawn := w242.drawn + 1 } : World) = w254 at H253 ⊢
           refine GS.r 3 3 [(2, pt p3 0), (3, pt p9 0), (4, pt p13 0), (7, .slice B_ (b.length + 1 + padZ b.length + 8) C_), (9, vi (64 * j)), (11, pt p154 0), (15, li 5), (253, li 5), (256, li 5), (258, pt p13 5)] ?_
           refine GS.s 4 (H253.ld (o := 5) (ty := 22) (v := vw h5) 2 rfl (by kernel_rfl) rfl) [(2, pt p3 0), (3, pt p9 0), (4, pt p13 0), (7, .slice B_ (b.length + 1 + padZ b.length + 8) C_), (9, vi (64 * j)), (11, pt p154 0), (15, li 5), (253, li 5), (256, li 5), (259, vw h5)] ?_
           refine GS.r 6 2 [(2, pt p3 0), (3, pt p9 0), (4, pt p13 0), (7, .slice B_ (b.length + 1 + padZ b.length + 8) C_), (9, vi (64 * j)), (11, pt p154 0), (253, li 5), (256, li 5), (259, vw h5), (261, pt p154 5)] ?_
           refine GS.s 7 (H253.ld (o := 5) (ty := 22) (v := vw f) 7 rfl (by kernel_rfl) rfl) [(2, pt p3 0), (3, pt p9 0), (4, pt p13 0), (7, .slice B_ (b.length + 1 + padZ b.length + 8) C_), (9, vi (64 * j)), (11, pt p154 0), (253, li 5), (256, li 5), (259, vw h5), (262, vw f)] ?_
           refine GS.r 9 2 [(2, pt p3 0), (3, pt p9 0), (4, pt p13 0), (7, .slice B_ (b.length + 1 + padZ b.length + 8) C_), (9, vi (64 * j)), (11, pt p154 0), (253, li 5), (263, lw (IntKind.u32.wrap ((h5 : Int) + (f : Int)))), (264, pt p13 5)] ?_
           have e255 : (IntKind.u32.wrap ((h5 : Int) + (f : Int))) = (((h5 + f) % W32 : Nat) : Int) := w_add _ _
           rw [e255]
           clear e255
           refine GS.tail rfl ?_
           obtain ⟨w256, r257, H258⟩ := H253.st (P := Try.prog) (o := 5) (ty := 22) (v := vw ((h5 + f) % W32)) 2 rfl (by kernel_rfl) (by show 5 < 8; decide) rfl
           refine GL.u 10 r257 [(2, pt p3 0), (3, pt p9 0), (4, pt p13 0), (7, .slice B_ (b.length + 1 + padZ b.length + 8) C_), (9, vi (64 * j)), (11, pt p154 0), (253, li 5)] ?_
           refine GL.q hK250 ?_
           refine G.region ?_
           refine GL.r 2 2 [(2, pt p3 0), (3, pt p9 0), (4, pt p13 0), (7, .slice B_ (b.length + 1 + padZ b.length + 8) C_), (9, vi (64 * j)), (11, pt p154 0), (253, li 6)] ?_
           refine GL.round rfl ?_
           refine G.sr fun K259 hK260 => ?_
           refine GL.r 1 1 [(2, pt p3 0), (3, pt p9 0), (4, pt p13 0), (7, .slice B_ (b.length + 1 + padZ b.length + 8) C_), (9, vi (64 * j)), (11, pt p154 0), (253, li 6), (254, .bool true)] ?_
           refine GL.q hK260 ?_
           refine G.seqK fun K261 hK262 => ?_
           refine G.yes rfl ?_
           refine G.skipK hK262 (fun _ _ h => h) ?_
           refine G.seqK fun K263 hK264 => ?_
           refine G.block ?_
           refine G.sr fun K265 hK266 => ?_
           refine GL.r 2 2 [(2, pt p3 0), (3, pt p9 0), (4, pt p13 0), (7, .slice B_ (b.length + 1 + padZ b.length + 8) C_), (9, vi (64 * j)), (11, pt p154 0), (15, li 6), (253, li 6)] ?_
           refine GL.q hK266 ?_
           refine G.tail 9 (by kernel_rfl) (by kernel_rfl) ?_
           have H267 := H258.drew
           generalize ({ w256 with drawn := w256.drawn + 1 } : World) = w268 at H267 ⊢
           refine GS.r 3 3 [(2, pt p3 0), (3, pt p9 0), (4, pt p13 0), (7, .slice B_ (b.length + 1 + padZ b.length + 8) C_), (9, vi (64 * j)), (11, pt p154 0), (15, li 6), (253, li 6), (256, li 6), (258, pt p13 6)] ?_
           refine GS.s 4 (H267.ld (o := 6) (ty := 22) (v := vw h6) 2 rfl (by kernel_rfl) rfl) [(2, pt p3 0), (3, pt p9 0), (4, pt p13 0), (7, .slice B_ (b.length + 1 + padZ b.length + 8) C_), (9, vi (64 * j)), (11, pt p154 0), (15, li 6), (253, li 6), (256, li 6), (259, vw h6)] ?_
           refine GS.r 6 2 [(2, pt p3 0), (3, pt p9 0), (4, pt p13 0), (7, .slice B_ (b.length + 1 + padZ b.length + 8) C_), (9, vi (64 * j)), (11, pt p154 0), (253, li 6), (256, li 6), (259, vw h6), (261, pt p154 6)] ?_
           refine GS.s 7 (H267.ld (o := 6) (ty := 22) (v := vw g) 7 rfl (by kernel_rfl) rfl) [(2, pt p3 0), (3, pt p9 0), (4, pt p13 0), (7, .slice B_ (b.length + 1 + padZ b.length + 8) C_), (9, vi (64 * j)), (11, pt p154 0), (253, li 6), (256, li 6), (259, vw h6), (262, vw g)] ?_
           refine GS.r 9 2 [(2, pt p3 0), (3, pt p9 0), (4, pt p13 0), (7, .slice B_ (b.length + 1 + padZ b.length + 8) C_), (9, vi (64 * j)), (11, pt p154 0), (253, li 6), (263, lw (IntKind.u32.wrap ((h6 : Int) + (g : Int)))), (264, pt p13 6)] ?_
           have e269 : (IntKind.u32.wrap ((h6 : Int) + (g : Int))) = (((h6 + g) % W32 : Nat) : Int) := w_add _ _
           rw [e269]
           clear e269
           refine GS.tail rfl ?_
           obtain ⟨w270, r271, H272⟩ := H267.st (P := Try.prog) (o := 6) (ty := 22) (v := vw ((h6 + g) % W32)) 2 rfl (by kernel_rfl) (by show 6 < 8; decide) rfl
           refine GL.u 10 r271 [(2, pt p3 0), (3, pt p9 0), (4, pt p13 0), (7, .slice B_ (b.length + 1 + padZ b.length + 8) C_), (9, vi (64 * j)), (11, pt p154 0), (253, li 6)] ?_
           refine GL.q hK264 ?_
           refine G.region ?_
           refine GL.r 2 2 [(2, pt p3 0), (3, pt p9 0), (4, pt p13 0), (7, .slice B_ (b.length + 1 + padZ b.length + 8) C_), (9, vi (64 * j)), (11, pt p154 0), (253, li 7)] ?_
           refine GL.round rfl ?_
           refine G.sr fun K273 hK274 => ?_
           refine GL.r 1 1 [(2, pt p3 0), (3, pt p9 0), (4, pt p13 0), (7, .slice B_ (b.length + 1 + padZ b.length + 8) C_), (9, vi (64 * j)), (11, pt p154 0), (253, li 7), (254, .bool true)] ?_
           refine GL.q hK274 ?_
           refine G.seqK fun K275 hK276 => ?_
           refine G.yes rfl ?_
           refine G.skipK hK276 (fun _ _ h => h) ?_
           refine G.seqK fun K277 hK278 => ?_
           refine G.block ?_
           refine G.sr fun K279 hK280 => ?_
           refine GL.r 2 2 [(2, pt p3 0), (3, pt p9 0), (4, pt p13 0), (7, .slice B_ (b.length + 1 + padZ b.length + 8) C_), (9, vi (64 * j)), (11, pt p154 0), (15, li 7), (253, li 7)] ?_
           refine GL.q hK280 ?_
           refine G.tail 9 (by kernel_rfl) (by kernel_rfl) ?_
           have H281 := H272.drew
           generalize ({ w270 with drawn := w270.drawn + 1 } : World) = w282 at H281 ⊢
           refine GS.r 3 3 [(2, pt p3 0), (3, pt p9 0), (4, pt p13 0), (7, .slice B_ (b.length + 1 + padZ b.length + 8) C_), (9, vi (64 * j)), (11, pt p154 0), (15, li 7), (253, li 7), (256, li 7), (258, pt p13 7)] ?_
           refine GS.s 4 (H281.ld (o := 7) (ty := 22) (v := vw h7) 2 rfl (by kernel_rfl) rfl) [(2, pt p3 0), (3, pt p9 0), (4, pt p13 0), (7, .slice B_ (b.length + 1 + padZ b.length + 8) C_), (9, vi (64 * j)), (11, pt p154 0), (15, li 7), (253, li 7), (256, li 7), (259, vw h7)] ?_
           refine GS.r 6 2 [(2, pt p3 0), (3, pt p9 0), (4, pt p13 0), (7, .slice B_ (b.length + 1 + padZ b.length + 8) C_), (9, vi (64 * j)), (11, pt p154 0), (253, li 7), (256, li 7), (259, vw h7), (261, pt p154 7)] ?_
           refine GS.s 7 (H281.ld (o := 7) (ty := 22) (v := vw h) 7 rfl (by kernel_rfl) rfl) [(2, pt p3 0), (3, pt p9 0), (4, pt p13 0), (7, .slice B_ (b.length + 1 + padZ b.length + 8) C_), (9, vi (64 * j)), (11, pt p154 0), (253, li 7), (256, li 7), (259, vw h7), (262, vw h)] ?_
           refine GS.r 9 2 [(2, pt p3 0), (3, pt p9 0), (4, pt p13 0), (7, .slice B_ (b.length + 1 + padZ b.length + 8) C_), (9, vi (64 * j)), (11, pt p154 0), (253, li 7), (263, lw (IntKind.u32.wrap ((h7 : Int) + (h : Int)))), (264, pt p13 7)] ?_
           have e283 : (IntKind.u32.wrap ((h7 : Int) + (h : Int))) = (((h7 + h) % W32 : Nat) : Int) := w_add _ _
           rw [e283]
           clear e283
           refine GS.tail rfl ?_
           obtain ⟨w284, r285, H286⟩ := H281.st (P := Try.prog) (o := 7) (ty := 22) (v := vw ((h7 + h) % W32)) 2 rfl (by kernel_rfl) (by show 7 < 8; decide) rfl
           refine GL.u 10 r285 [(2, pt p3 0), (3, pt p9 0), (4, pt p13 0), (7, .slice B_ (b.length + 1 + padZ b.length + 8) C_), (9, vi (64 * j)), (11, pt p154 0), (253, li 7)] ?_
           refine GL.q hK278 ?_
           refine G.region ?_
           refine GL.r 2 2 [(2, pt p3 0), (3, pt p9 0), (4, pt p13 0), (7, .slice B_ (b.length + 1 + padZ b.length + 8) C_), (9, vi (64 * j)), (11, pt p154 0), (253, li 8)] ?_
           refine GL.round rfl ?_
           refine G.sr fun K287 hK288 => ?_
           refine GL.r 1 1 [(2, pt p3 0), (3, pt p9 0), (4, pt p13 0), (7, .slice B_ (b.length + 1 + padZ b.length + 8) C_), (9, vi (64 * j)), (11, pt p154 0), (253, li 8), (254, .bool false)] ?_
           refine GL.q hK288 ?_
           refine G.seqK fun K289 hK290 => ?_
           refine G.no rfl ?_
           refine G.exitK hK142 (fun _ _ h => h) ?_
           refine G.region ?_
           refine GL.r 3 3 [(2, pt p3 0), (3, pt p9 0), (4, pt p13 0), (7, .slice B_ (b.length + 1 + padZ b.length + 8) C_), (9, li (IntKind.i64.wrap ((((64 * j) : Nat) : Int) + 64)))] ?_
           have e291 : (IntKind.i64.wrap ((((64 * j) : Nat) : Int) + 64)) = (((64 * j) + 64 : Nat) : Int) := by rw [in_i64 (by omega)]; omega
           rw [e291]
           clear e291
           have H292 : Hp w [] [.blk p3 (by8 (bsP (outB (blocks (padM b) ((padM b).length / 64))) 32 0)) 50, .blk p9 (u32s KT) 119, .blk p13 (c8 ((h0 + a) % W32) ((h1 + b_) % W32) ((h2 + c_) % W32) ((h3 + d) % W32) ((h4 + e) % W32) ((h5 + f) % W32) ((h6 + g) % W32) ((h7 + h) % W32)) 120, .row A27 64 c28 31 1 (dg PR), .row B_ (b.length + 1 + padZ b.length + 8) C_ 5 1 (by8 (padM b)), .row (some ⟨p53, 0, none⟩) 1 1 5 1 (by8 ([128] : List UInt8))] w284 := H286.sub (List.Sublist.cons_cons _ (List.Sublist.cons_cons _ (List.Sublist.cons_cons _ (List.Sublist.cons_cons _ (List.Sublist.cons_cons _ (List.Sublist.cons_cons _ (List.Sublist.cons _ (List.Sublist.cons _ (List.Sublist.slnil)))))))))
           have hnx : ((h0 + a) % W32, (h1 + b_) % W32, (h2 + c_) % W32, (h3 + d) % W32, (h4 + e) % W32, (h5 + f) % W32, (h6 + g) % W32, (h7 + h) % W32) = blocks (padM b) (j + 1) := by rw [blocks, ← hp, ← hhv, blockF, ← (show t = 64 by omega), ← hv8]; rfl
           refine GL.fit (ts := [2, 3, 4, 7, 9]) (M' := [(2, pt p3 0), (3, pt p9 0), (4, pt p13 0), (7, .slice B_ (b.length + 1 + padZ b.length + 8) C_), (9, vi ((64 * j) + 64))]) (by kernel_rfl) ?_
           refine GL.eq (M' := [(2, pt p3 0), (3, pt p9 0), (4, pt p13 0), (7, .slice B_ (b.length + 1 + padZ b.length + 8) C_), (9, vi (64 * (j + 1)))]) (by rw [show 64 * j + 64 = 64 * (j + 1) by omega]) ?_
           exact GL.again ⟨(j + 1), (h0 + a) % W32, (h1 + b_) % W32, (h2 + c_) % W32, (h3 + d) % W32, (h4 + e) % W32, (h5 + f) % W32, (h6 + g) % W32, (h7 + h) % W32⟩ [2, 3, 4, 7, 9] rfl (by kernel_rfl) (by show ((padM b).length / 64) - (j + 1) < ((padM b).length / 64) - j; omega) ⟨⟨by omega, hnx⟩, H292⟩
         · skip
           have hb172f := of_decide_eq_true hb172
           refine G.yes rfl ?_
           refine G.skipK hK169 (fun _ _ h => h) ?_
           refine G.seqK fun K293 hK294 => ?_
           refine G.block ?_
           refine G.seqJ (X := Unit) (fun u_ => [(2, pt p3 0), (3, pt p9 0), (4, pt p13 0), (7, .slice B_ (b.length + 1 + padZ b.length + 8) C_), (9, vi (64 * j)), (10, pt p145 0), (11, pt p154 0), (12, vi t)]) (fun u_ w_ => (True) ∧ Hp w [] [.blk p3 (by8 (bsP (outB (blocks (padM b) ((padM b).length / 64))) 32 0)) 50, .blk p9 (u32s KT) 119, .blk p13 (c8 h0 h1 h2 h3 h4 h5 h6 h7) 120, .row A27 64 c28 31 1 (dg PR), .row B_ (b.length + 1 + padZ b.length + 8) C_ 5 1 (by8 (padM b)), .row (some ⟨p53, 0, none⟩) 1 1 5 1 (by8 ([128] : List UInt8)), .blk p145 (u32s (wsP p (t + 1))) 119, .blk p154 (c8 a b_ c_ d e f g h) 120] w_) (fun J295 K296 hK297 => ?_) ?_
           · skip
             refine G.sr fun K298 hK299 => ?_
             refine GL.r 2 2 [(2, pt p3 0), (3, pt p9 0), (4, pt p13 0), (7, .slice B_ (b.length + 1 + padZ b.length + 8) C_), (9, vi (64 * j)), (10, pt p145 0), (11, pt p154 0), (12, vi t), (78, .bool (decide ((t : Int) < 16)))] ?_
             refine GL.q hK299 ?_
             cases hb300 : (decide ((t : Int) < 16))
             · skip
               have hb300f := of_decide_eq_false hb300
               have H301 : Hp w [] [.blk p3 (by8 (bsP (outB (blocks (padM b) ((padM b).length / 64))) 32 0)) 50, .blk p9 (u32s KT) 119, .blk p13 (c8 h0 h1 h2 h3 h4 h5 h6 h7) 120, .row A27 64 c28 31 1 (dg PR), .row B_ (b.length + 1 + padZ b.length + 8) C_ 5 1 (by8 (padM b)), .row (some ⟨p53, 0, none⟩) 1 1 5 1 (by8 ([128] : List UInt8)), .blk p145 (u32s (List.set (wsP p t) t 0)) 119, .blk p154 (c8 a b_ c_ d e f g h) 120] w165 := by rw [wsP_none (by omega)]; exact H167
               refine G.no rfl ?_
               refine G.heldP (fun w_ => ∃ z_ : Nat, Hp w [] [.blk p3 (by8 (bsP (outB (blocks (padM b) ((padM b).length / 64))) 32 0)) 50, .blk p9 (u32s KT) 119, .blk p13 (c8 h0 h1 h2 h3 h4 h5 h6 h7) 120, .row A27 64 c28 31 1 (dg PR), .row B_ (b.length + 1 + padZ b.length + 8) C_ 5 1 (by8 (padM b)), .row (some ⟨p53, 0, none⟩) 1 1 5 1 (by8 ([128] : List UInt8)), .blk p145 (u32s (List.set (wsP p t) t z_)) 119, .blk p154 (c8 a b_ c_ d e f g h) 120] w_) (by kernel_rfl) (by kernel_rfl) (fun c_ a_ d_ v_ w_ h_ => hPan c_ a_ d_ v_ w_ h_) ?_
               have H302 := H301.drew
               generalize ({ w165 with drawn := w165.drawn + 1 } : World) = w303 at H302 ⊢
               have hS304 : ∃ z_ : Nat, Hp w [] [.blk p3 (by8 (bsP (outB (blocks (padM b) ((padM b).length / 64))) 32 0)) 50, .blk p9 (u32s KT) 119, .blk p13 (c8 h0 h1 h2 h3 h4 h5 h6 h7) 120, .row A27 64 c28 31 1 (dg PR), .row B_ (b.length + 1 + padZ b.length + 8) C_ 5 1 (by8 (padM b)), .row (some ⟨p53, 0, none⟩) 1 1 5 1 (by8 ([128] : List UInt8)), .blk p145 (u32s (List.set (wsP p t) t z_)) 119, .blk p154 (c8 a b_ c_ d e f g h) 120] w303 := ⟨0, H302.sub (List.Sublist.cons_cons _ (List.Sublist.cons_cons _ (List.Sublist.cons_cons _ (List.Sublist.cons_cons _ (List.Sublist.cons_cons _ (List.Sublist.cons_cons _ (List.Sublist.cons_cons _ (List.Sublist.cons_cons _ (List.Sublist.slnil)))))))))⟩
               refine GP.r [0, 1, 2] [(2, pt p3 0), (3, pt p9 0), (4, pt p13 0), (7, .slice B_ (b.length + 1 + padZ b.length + 8) C_), (9, vi (64 * j)), (10, pt p145 0), (11, pt p154 0), (12, vi t), (122, vi t), (124, li (IntKind.i64.wrap ((t : Int) - 2)))] [0, 1, 2] hS304 ?_
               have e305 : (IntKind.i64.wrap ((t : Int) - 2)) = (((t - 2) : Nat) : Int) := by rw [in_i64 (by omega)]; omega
               refine GP.eq (M' := [(2, pt p3 0), (3, pt p9 0), (4, pt p13 0), (7, .slice B_ (b.length + 1 + padZ b.length + 8) C_), (9, vi (64 * j)), (10, pt p145 0), (11, pt p154 0), (12, vi t), (122, vi t), (124, vi (t - 2))]) (by rw [e305]) ?_
               clear e305
               refine GP.s 3 (fun w_ ⟨_, H_⟩ => run_idxArr (P := Try.prog) (k := .i64) (t := 119) (len := 64) (sz := 1) (b := p145) (o := 0) (j := (t - 2)) (by kernel_rfl) rfl (by omega)) [(2, pt p3 0), (3, pt p9 0), (4, pt p13 0), (7, .slice B_ (b.length + 1 + padZ b.length + 8) C_), (9, vi (64 * j)), (10, pt p145 0), (11, pt p154 0), (12, vi t), (122, vi t), (125, pt p145 (0 + (t - 2) * 1))] hS304 ?_
               refine GP.s 4 (fun w_ ⟨_, H_⟩ => H_.ld (o := (0 + (t - 2) * 1)) (ty := 22) (v := vw ((wsN p t).getD (t - 2) 0)) 6 rfl (by kernel_rfl) (by rw [show (0 + (t - 2) * 1) = (t - 2) by omega]; exact u32s_at ((List.getElem?_set_ne (by omega)).trans (wsP_at (by omega) (by omega))))) [(2, pt p3 0), (3, pt p9 0), (4, pt p13 0), (7, .slice B_ (b.length + 1 + padZ b.length + 8) C_), (9, vi (64 * j)), (10, pt p145 0), (11, pt p154 0), (12, vi t), (122, vi t), (126, vw ((wsN p t).getD (t - 2) 0))] hS304 ?_
               refine GP.r [6, 7] [(2, pt p3 0), (3, pt p9 0), (4, pt p13 0), (7, .slice B_ (b.length + 1 + padZ b.length + 8) C_), (9, vi (64 * j)), (10, pt p145 0), (11, pt p154 0), (12, vi t), (122, vi t), (126, vw ((wsN p t).getD (t - 2) 0)), (129, li (IntKind.i64.wrap ((t : Int) - 2)))] [0, 1, 2, 3, 4, 6, 7] hS304 ?_
               have e306 : (IntKind.i64.wrap ((t : Int) - 2)) = (((t - 2) : Nat) : Int) := by rw [in_i64 (by omega)]; omega
               refine GP.eq (M' := [(2, pt p3 0), (3, pt p9 0), (4, pt p13 0), (7, .slice B_ (b.length + 1 + padZ b.length + 8) C_), (9, vi (64 * j)), (10, pt p145 0), (11, pt p154 0), (12, vi t), (122, vi t), (126, vw ((wsN p t).getD (t - 2) 0)), (129, vi (t - 2))]) (by rw [e306]) ?_
               clear e306
               refine GP.s 8 (fun w_ ⟨_, H_⟩ => run_idxArr (P := Try.prog) (k := .i64) (t := 119) (len := 64) (sz := 1) (b := p145) (o := 0) (j := (t - 2)) (by kernel_rfl) rfl (by omega)) [(2, pt p3 0), (3, pt p9 0), (4, pt p13 0), (7, .slice B_ (b.length + 1 + padZ b.length + 8) C_), (9, vi (64 * j)), (10, pt p145 0), (11, pt p154 0), (12, vi t), (122, vi t), (126, vw ((wsN p t).getD (t - 2) 0)), (130, pt p145 (0 + (t - 2) * 1))] hS304 ?_
               refine GP.s 9 (fun w_ ⟨_, H_⟩ => H_.ld (o := (0 + (t - 2) * 1)) (ty := 22) (v := vw ((wsN p t).getD (t - 2) 0)) 6 rfl (by kernel_rfl) (by rw [show (0 + (t - 2) * 1) = (t - 2) by omega]; exact u32s_at ((List.getElem?_set_ne (by omega)).trans (wsP_at (by omega) (by omega))))) [(2, pt p3 0), (3, pt p9 0), (4, pt p13 0), (7, .slice B_ (b.length + 1 + padZ b.length + 8) C_), (9, vi (64 * j)), (10, pt p145 0), (11, pt p154 0), (12, vi t), (122, vi t), (126, vw ((wsN p t).getD (t - 2) 0)), (131, vw ((wsN p t).getD (t - 2) 0))] hS304 ?_
               refine GP.r [12, 13] [(2, pt p3 0), (3, pt p9 0), (4, pt p13 0), (7, .slice B_ (b.length + 1 + padZ b.length + 8) C_), (9, vi (64 * j)), (10, pt p145 0), (11, pt p154 0), (12, vi t), (122, vi t), (126, vw ((wsN p t).getD (t - 2) 0)), (131, vw ((wsN p t).getD (t - 2) 0)), (135, li (IntKind.i64.wrap ((t : Int) - 2)))] [0, 1, 2, 3, 4, 6, 7, 8, 9, 12, 13] hS304 ?_
               have e307 : (IntKind.i64.wrap ((t : Int) - 2)) = (((t - 2) : Nat) : Int) := by rw [in_i64 (by omega)]; omega
               refine GP.eq (M' := [(2, pt p3 0), (3, pt p9 0), (4, pt p13 0), (7, .slice B_ (b.length + 1 + padZ b.length + 8) C_), (9, vi (64 * j)), (10, pt p145 0), (11, pt p154 0), (12, vi t), (122, vi t), (126, vw ((wsN p t).getD (t - 2) 0)), (131, vw ((wsN p t).getD (t - 2) 0)), (135, vi (t - 2))]) (by rw [e307]) ?_
               clear e307
               refine GP.s 14 (fun w_ ⟨_, H_⟩ => run_idxArr (P := Try.prog) (k := .i64) (t := 119) (len := 64) (sz := 1) (b := p145) (o := 0) (j := (t - 2)) (by kernel_rfl) rfl (by omega)) [(2, pt p3 0), (3, pt p9 0), (4, pt p13 0), (7, .slice B_ (b.length + 1 + padZ b.length + 8) C_), (9, vi (64 * j)), (10, pt p145 0), (11, pt p154 0), (12, vi t), (122, vi t), (126, vw ((wsN p t).getD (t - 2) 0)), (131, vw ((wsN p t).getD (t - 2) 0)), (136, pt p145 (0 + (t - 2) * 1))] hS304 ?_
               refine GP.s 15 (fun w_ ⟨_, H_⟩ => H_.ld (o := (0 + (t - 2) * 1)) (ty := 22) (v := vw ((wsN p t).getD (t - 2) 0)) 6 rfl (by kernel_rfl) (by rw [show (0 + (t - 2) * 1) = (t - 2) by omega]; exact u32s_at ((List.getElem?_set_ne (by omega)).trans (wsP_at (by omega) (by omega))))) [(2, pt p3 0), (3, pt p9 0), (4, pt p13 0), (7, .slice B_ (b.length + 1 + padZ b.length + 8) C_), (9, vi (64 * j)), (10, pt p145 0), (11, pt p154 0), (12, vi t), (122, vi t), (126, vw ((wsN p t).getD (t - 2) 0)), (131, vw ((wsN p t).getD (t - 2) 0)), (137, vw ((wsN p t).getD (t - 2) 0))] hS304 ?_
               refine GP.r [16, 18, 19] [(2, pt p3 0), (3, pt p9 0), (4, pt p13 0), (7, .slice B_ (b.length + 1 + padZ b.length + 8) C_), (9, vi (64 * j)), (10, pt p145 0), (11, pt p154 0), (12, vi t), (122, vi t), (126, vw ((wsN p t).getD (t - 2) 0)), (131, vw ((wsN p t).getD (t - 2) 0)), (138, lw (Int.fdiv ((((wsN p t).getD (t - 2) 0) : Nat) : Int) (2 ^ 10))), (141, li (IntKind.i64.wrap ((t : Int) - 7)))] [0, 1, 2, 3, 4, 6, 7, 8, 9, 12, 13, 14, 15, 16, 18, 19] hS304 ?_
               have e308 : (Int.fdiv ((((wsN p t).getD (t - 2) 0) : Nat) : Int) (2 ^ 10)) = (((((wsN p t).getD (t - 2) 0) / 2 ^ 10) : Nat) : Int) := n_shr _ 10
               have e309 : (IntKind.i64.wrap ((t : Int) - 7)) = (((t - 7) : Nat) : Int) := by rw [in_i64 (by omega)]; omega
               refine GP.eq (M' := [(2, pt p3 0), (3, pt p9 0), (4, pt p13 0), (7, .slice B_ (b.length + 1 + padZ b.length + 8) C_), (9, vi (64 * j)), (10, pt p145 0), (11, pt p154 0), (12, vi t), (122, vi t), (126, vw ((wsN p t).getD (t - 2) 0)), (131, vw ((wsN p t).getD (t - 2) 0)), (138, vw (((wsN p t).getD (t - 2) 0) / 2 ^ 10)), (141, vi (t - 7))]) (by rw [e308, e309]) ?_
               clear e308 e309
               refine GP.s 20 (fun w_ ⟨_, H_⟩ => run_idxArr (P := Try.prog) (k := .i64) (t := 119) (len := 64) (sz := 1) (b := p145) (o := 0) (j := (t - 7)) (by kernel_rfl) rfl (by omega)) [(2, pt p3 0), (3, pt p9 0), (4, pt p13 0), (7, .slice B_ (b.length + 1 + padZ b.length + 8) C_), (9, vi (64 * j)), (10, pt p145 0), (11, pt p154 0), (12, vi t), (122, vi t), (126, vw ((wsN p t).getD (t - 2) 0)), (131, vw ((wsN p t).getD (t - 2) 0)), (138, vw (((wsN p t).getD (t - 2) 0) / 2 ^ 10)), (142, pt p145 (0 + (t - 7) * 1))] hS304 ?_
               refine GP.s 21 (fun w_ ⟨_, H_⟩ => H_.ld (o := (0 + (t - 7) * 1)) (ty := 22) (v := vw ((wsN p t).getD (t - 7) 0)) 6 rfl (by kernel_rfl) (by rw [show (0 + (t - 7) * 1) = (t - 7) by omega]; exact u32s_at ((List.getElem?_set_ne (by omega)).trans (wsP_at (by omega) (by omega))))) [(2, pt p3 0), (3, pt p9 0), (4, pt p13 0), (7, .slice B_ (b.length + 1 + padZ b.length + 8) C_), (9, vi (64 * j)), (10, pt p145 0), (11, pt p154 0), (12, vi t), (122, vi t), (126, vw ((wsN p t).getD (t - 2) 0)), (131, vw ((wsN p t).getD (t - 2) 0)), (138, vw (((wsN p t).getD (t - 2) 0) / 2 ^ 10)), (143, vw ((wsN p t).getD (t - 7) 0))] hS304 ?_
               refine GP.r [23, 24] [(2, pt p3 0), (3, pt p9 0), (4, pt p13 0), (7, .slice B_ (b.length + 1 + padZ b.length + 8) C_), (9, vi (64 * j)), (10, pt p145 0), (11, pt p154 0), (12, vi t), (122, vi t), (126, vw ((wsN p t).getD (t - 2) 0)), (131, vw ((wsN p t).getD (t - 2) 0)), (138, vw (((wsN p t).getD (t - 2) 0) / 2 ^ 10)), (143, vw ((wsN p t).getD (t - 7) 0)), (146, li (IntKind.i64.wrap ((t : Int) - 15)))] [0, 1, 2, 3, 4, 6, 7, 8, 9, 12, 13, 14, 15, 16, 18, 19, 20, 21, 23, 24] hS304 ?_
               have e310 : (IntKind.i64.wrap ((t : Int) - 15)) = (((t - 15) : Nat) : Int) := by rw [in_i64 (by omega)]; omega
               refine GP.eq (M' := [(2, pt p3 0), (3, pt p9 0), (4, pt p13 0), (7, .slice B_ (b.length + 1 + padZ b.length + 8) C_), (9, vi (64 * j)), (10, pt p145 0), (11, pt p154 0), (12, vi t), (122, vi t), (126, vw ((wsN p t).getD (t - 2) 0)), (131, vw ((wsN p t).getD (t - 2) 0)), (138, vw (((wsN p t).getD (t - 2) 0) / 2 ^ 10)), (143, vw ((wsN p t).getD (t - 7) 0)), (146, vi (t - 15))]) (by rw [e310]) ?_
               clear e310
               refine GP.s 25 (fun w_ ⟨_, H_⟩ => run_idxArr (P := Try.prog) (k := .i64) (t := 119) (len := 64) (sz := 1) (b := p145) (o := 0) (j := (t - 15)) (by kernel_rfl) rfl (by omega)) [(2, pt p3 0), (3, pt p9 0), (4, pt p13 0), (7, .slice B_ (b.length + 1 + padZ b.length + 8) C_), (9, vi (64 * j)), (10, pt p145 0), (11, pt p154 0), (12, vi t), (122, vi t), (126, vw ((wsN p t).getD (t - 2) 0)), (131, vw ((wsN p t).getD (t - 2) 0)), (138, vw (((wsN p t).getD (t - 2) 0) / 2 ^ 10)), (143, vw ((wsN p t).getD (t - 7) 0)), (147, pt p145 (0 + (t - 15) * 1))] hS304 ?_
               refine GP.s 26 (fun w_ ⟨_, H_⟩ => H_.ld (o := (0 + (t - 15) * 1)) (ty := 22) (v := vw ((wsN p t).getD (t - 15) 0)) 6 rfl (by kernel_rfl) (by rw [show (0 + (t - 15) * 1) = (t - 15) by omega]; exact u32s_at ((List.getElem?_set_ne (by omega)).trans (wsP_at (by omega) (by omega))))) [(2, pt p3 0), (3, pt p9 0), (4, pt p13 0), (7, .slice B_ (b.length + 1 + padZ b.length + 8) C_), (9, vi (64 * j)), (10, pt p145 0), (11, pt p154 0), (12, vi t), (122, vi t), (126, vw ((wsN p t).getD (t - 2) 0)), (131, vw ((wsN p t).getD (t - 2) 0)), (138, vw (((wsN p t).getD (t - 2) 0) / 2 ^ 10)), (143, vw ((wsN p t).getD (t - 7) 0)), (148, vw ((wsN p t).getD (t - 15) 0))] hS304 ?_
               refine GP.r [28, 29] [(2, pt p3 0), (3, pt p9 0), (4, pt p13 0), (7, .slice B_ (b.length + 1 + padZ b.length + 8) C_), (9, vi (64 * j)), (10, pt p145 0), (11, pt p154 0), (12, vi t), (122, vi t), (126, vw ((wsN p t).getD (t - 2) 0)), (131, vw ((wsN p t).getD (t - 2) 0)), (138, vw (((wsN p t).getD (t - 2) 0) / 2 ^ 10)), (143, vw ((wsN p t).getD (t - 7) 0)), (148, vw ((wsN p t).getD (t - 15) 0)), (151, li (IntKind.i64.wrap ((t : Int) - 15)))] [0, 1, 2, 3, 4, 6, 7, 8, 9, 12, 13, 14, 15, 16, 18, 19, 20, 21, 23, 24, 25, 26, 28, 29] hS304 ?_
               have e311 : (IntKind.i64.wrap ((t : Int) - 15)) = (((t - 15) : Nat) : Int) := by rw [in_i64 (by omega)]; omega
               refine GP.eq (M' := [(2, pt p3 0), (3, pt p9 0), (4, pt p13 0), (7, .slice B_ (b.length + 1 + padZ b.length + 8) C_), (9, vi (64 * j)), (10, pt p145 0), (11, pt p154 0), (12, vi t), (122, vi t), (126, vw ((wsN p t).getD (t - 2) 0)), (131, vw ((wsN p t).getD (t - 2) 0)), (138, vw (((wsN p t).getD (t - 2) 0) / 2 ^ 10)), (143, vw ((wsN p t).getD (t - 7) 0)), (148, vw ((wsN p t).getD (t - 15) 0)), (151, vi (t - 15))]) (by rw [e311]) ?_
               clear e311
               refine GP.s 30 (fun w_ ⟨_, H_⟩ => run_idxArr (P := Try.prog) (k := .i64) (t := 119) (len := 64) (sz := 1) (b := p145) (o := 0) (j := (t - 15)) (by kernel_rfl) rfl (by omega)) [(2, pt p3 0), (3, pt p9 0), (4, pt p13 0), (7, .slice B_ (b.length + 1 + padZ b.length + 8) C_), (9, vi (64 * j)), (10, pt p145 0), (11, pt p154 0), (12, vi t), (122, vi t), (126, vw ((wsN p t).getD (t - 2) 0)), (131, vw ((wsN p t).getD (t - 2) 0)), (138, vw (((wsN p t).getD (t - 2) 0) / 2 ^ 10)), (143, vw ((wsN p t).getD (t - 7) 0)), (148, vw ((wsN p t).getD (t - 15) 0)), (152, pt p145 (0 + (t - 15) * 1))] hS304 ?_
               refine GP.s 31 (fun w_ ⟨_, H_⟩ => H_.ld (o := (0 + (t - 15) * 1)) (ty := 22) (v := vw ((wsN p t).getD (t - 15) 0)) 6 rfl (by kernel_rfl) (by rw [show (0 + (t - 15) * 1) = (t - 15) by omega]; exact u32s_at ((List.getElem?_set_ne (by omega)).trans (wsP_at (by omega) (by omega))))) [(2, pt p3 0), (3, pt p9 0), (4, pt p13 0), (7, .slice B_ (b.length + 1 + padZ b.length + 8) C_), (9, vi (64 * j)), (10, pt p145 0), (11, pt p154 0), (12, vi t), (122, vi t), (126, vw ((wsN p t).getD (t - 2) 0)), (131, vw ((wsN p t).getD (t - 2) 0)), (138, vw (((wsN p t).getD (t - 2) 0) / 2 ^ 10)), (143, vw ((wsN p t).getD (t - 7) 0)), (148, vw ((wsN p t).getD (t - 15) 0)), (153, vw ((wsN p t).getD (t - 15) 0))] hS304 ?_
               refine GP.r [34, 35] [(2, pt p3 0), (3, pt p9 0), (4, pt p13 0), (7, .slice B_ (b.length + 1 + padZ b.length + 8) C_), (9, vi (64 * j)), (10, pt p145 0), (11, pt p154 0), (12, vi t), (122, vi t), (126, vw ((wsN p t).getD (t - 2) 0)), (131, vw ((wsN p t).getD (t - 2) 0)), (138, vw (((wsN p t).getD (t - 2) 0) / 2 ^ 10)), (143, vw ((wsN p t).getD (t - 7) 0)), (148, vw ((wsN p t).getD (t - 15) 0)), (153, vw ((wsN p t).getD (t - 15) 0)), (157, li (IntKind.i64.wrap ((t : Int) - 15)))] [0, 1, 2, 3, 4, 6, 7, 8, 9, 12, 13, 14, 15, 16, 18, 19, 20, 21, 23, 24, 25, 26, 28, 29, 30, 31, 34, 35] hS304 ?_
               have e312 : (IntKind.i64.wrap ((t : Int) - 15)) = (((t - 15) : Nat) : Int) := by rw [in_i64 (by omega)]; omega
               refine GP.eq (M' := [(2, pt p3 0), (3, pt p9 0), (4, pt p13 0), (7, .slice B_ (b.length + 1 + padZ b.length + 8) C_), (9, vi (64 * j)), (10, pt p145 0), (11, pt p154 0), (12, vi t), (122, vi t), (126, vw ((wsN p t).getD (t - 2) 0)), (131, vw ((wsN p t).getD (t - 2) 0)), (138, vw (((wsN p t).getD (t - 2) 0) / 2 ^ 10)), (143, vw ((wsN p t).getD (t - 7) 0)), (148, vw ((wsN p t).getD (t - 15) 0)), (153, vw ((wsN p t).getD (t - 15) 0)), (157, vi (t - 15))]) (by rw [e312]) ?_
               clear e312
               refine GP.s 36 (fun w_ ⟨_, H_⟩ => run_idxArr (P := Try.prog) (k := .i64) (t := 119) (len := 64) (sz := 1) (b := p145) (o := 0) (j := (t - 15)) (by kernel_rfl) rfl (by omega)) [(2, pt p3 0), (3, pt p9 0), (4, pt p13 0), (7, .slice B_ (b.length + 1 + padZ b.length + 8) C_), (9, vi (64 * j)), (10, pt p145 0), (11, pt p154 0), (12, vi t), (122, vi t), (126, vw ((wsN p t).getD (t - 2) 0)), (131, vw ((wsN p t).getD (t - 2) 0)), (138, vw (((wsN p t).getD (t - 2) 0) / 2 ^ 10)), (143, vw ((wsN p t).getD (t - 7) 0)), (148, vw ((wsN p t).getD (t - 15) 0)), (153, vw ((wsN p t).getD (t - 15) 0)), (158, pt p145 (0 + (t - 15) * 1))] hS304 ?_
               refine GP.s 37 (fun w_ ⟨_, H_⟩ => H_.ld (o := (0 + (t - 15) * 1)) (ty := 22) (v := vw ((wsN p t).getD (t - 15) 0)) 6 rfl (by kernel_rfl) (by rw [show (0 + (t - 15) * 1) = (t - 15) by omega]; exact u32s_at ((List.getElem?_set_ne (by omega)).trans (wsP_at (by omega) (by omega))))) [(2, pt p3 0), (3, pt p9 0), (4, pt p13 0), (7, .slice B_ (b.length + 1 + padZ b.length + 8) C_), (9, vi (64 * j)), (10, pt p145 0), (11, pt p154 0), (12, vi t), (122, vi t), (126, vw ((wsN p t).getD (t - 2) 0)), (131, vw ((wsN p t).getD (t - 2) 0)), (138, vw (((wsN p t).getD (t - 2) 0) / 2 ^ 10)), (143, vw ((wsN p t).getD (t - 7) 0)), (148, vw ((wsN p t).getD (t - 15) 0)), (153, vw ((wsN p t).getD (t - 15) 0)), (159, vw ((wsN p t).getD (t - 15) 0))] hS304 ?_
               refine GP.r [38, 41, 42] [(2, pt p3 0), (3, pt p9 0), (4, pt p13 0), (7, .slice B_ (b.length + 1 + padZ b.length + 8) C_), (9, vi (64 * j)), (10, pt p145 0), (11, pt p154 0), (12, vi t), (122, vi t), (126, vw ((wsN p t).getD (t - 2) 0)), (131, vw ((wsN p t).getD (t - 2) 0)), (138, vw (((wsN p t).getD (t - 2) 0) / 2 ^ 10)), (143, vw ((wsN p t).getD (t - 7) 0)), (148, vw ((wsN p t).getD (t - 15) 0)), (153, vw ((wsN p t).getD (t - 15) 0)), (160, lw (Int.fdiv ((((wsN p t).getD (t - 15) 0) : Nat) : Int) (2 ^ 3))), (164, li (IntKind.i64.wrap ((t : Int) - 16)))] [0, 1, 2, 3, 4, 6, 7, 8, 9, 12, 13, 14, 15, 16, 18, 19, 20, 21, 23, 24, 25, 26, 28, 29, 30, 31, 34, 35, 36, 37, 38, 41, 42] hS304 ?_
               have e313 : (Int.fdiv ((((wsN p t).getD (t - 15) 0) : Nat) : Int) (2 ^ 3)) = (((((wsN p t).getD (t - 15) 0) / 2 ^ 3) : Nat) : Int) := n_shr _ 3
               have e314 : (IntKind.i64.wrap ((t : Int) - 16)) = (((t - 16) : Nat) : Int) := by rw [in_i64 (by omega)]; omega
               refine GP.eq (M' := [(2, pt p3 0), (3, pt p9 0), (4, pt p13 0), (7, .slice B_ (b.length + 1 + padZ b.length + 8) C_), (9, vi (64 * j)), (10, pt p145 0), (11, pt p154 0), (12, vi t), (122, vi t), (126, vw ((wsN p t).getD (t - 2) 0)), (131, vw ((wsN p t).getD (t - 2) 0)), (138, vw (((wsN p t).getD (t - 2) 0) / 2 ^ 10)), (143, vw ((wsN p t).getD (t - 7) 0)), (148, vw ((wsN p t).getD (t - 15) 0)), (153, vw ((wsN p t).getD (t - 15) 0)), (160, vw (((wsN p t).getD (t - 15) 0) / 2 ^ 3)), (164, vi (t - 16))]) (by rw [e313, e314]) ?_
               clear e313 e314
               refine GP.s 43 (fun w_ ⟨_, H_⟩ => run_idxArr (P := Try.prog) (k := .i64) (t := 119) (len := 64) (sz := 1) (b := p145) (o := 0) (j := (t - 16)) (by kernel_rfl) rfl (by omega)) [(2, pt p3 0), (3, pt p9 0), (4, pt p13 0), (7, .slice B_ (b.length + 1 + padZ b.length + 8) C_), (9, vi (64 * j)), (10, pt p145 0), (11, pt p154 0), (12, vi t), (122, vi t), (126, vw ((wsN p t).getD (t - 2) 0)), (131, vw ((wsN p t).getD (t - 2) 0)), (138, vw (((wsN p t).getD (t - 2) 0) / 2 ^ 10)), (143, vw ((wsN p t).getD (t - 7) 0)), (148, vw ((wsN p t).getD (t - 15) 0)), (153, vw ((wsN p t).getD (t - 15) 0)), (160, vw (((wsN p t).getD (t - 15) 0) / 2 ^ 3)), (165, pt p145 (0 + (t - 16) * 1))] hS304 ?_
               refine GP.s 44 (fun w_ ⟨_, H_⟩ => H_.ld (o := (0 + (t - 16) * 1)) (ty := 22) (v := vw ((wsN p t).getD (t - 16) 0)) 6 rfl (by kernel_rfl) (by rw [show (0 + (t - 16) * 1) = (t - 16) by omega]; exact u32s_at ((List.getElem?_set_ne (by omega)).trans (wsP_at (by omega) (by omega))))) [(2, pt p3 0), (3, pt p9 0), (4, pt p13 0), (7, .slice B_ (b.length + 1 + padZ b.length + 8) C_), (9, vi (64 * j)), (10, pt p145 0), (11, pt p154 0), (12, vi t), (122, vi t), (126, vw ((wsN p t).getD (t - 2) 0)), (131, vw ((wsN p t).getD (t - 2) 0)), (138, vw (((wsN p t).getD (t - 2) 0) / 2 ^ 10)), (143, vw ((wsN p t).getD (t - 7) 0)), (148, vw ((wsN p t).getD (t - 15) 0)), (153, vw ((wsN p t).getD (t - 15) 0)), (160, vw (((wsN p t).getD (t - 15) 0) / 2 ^ 3)), (166, vw ((wsN p t).getD (t - 16) 0))] hS304 ?_
               refine GP.call 5 (TurnR17_calls ((wsN p t).getD (t - 2) 0) (getD_lt (wsN_lt p t) _) w303) (by kernel_rfl) (by kernel_rfl) (fun e_ w315 hR => ?_)
               obtain ⟨rfl, H317⟩ := hR
               have H316 : Hp w [] [.blk p3 (by8 (bsP (outB (blocks (padM b) ((padM b).length / 64))) 32 0)) 50, .blk p9 (u32s KT) 119, .blk p13 (c8 h0 h1 h2 h3 h4 h5 h6 h7) 120, .row A27 64 c28 31 1 (dg PR), .row B_ (b.length + 1 + padZ b.length + 8) C_ 5 1 (by8 (padM b)), .row (some ⟨p53, 0, none⟩) 1 1 5 1 (by8 ([128] : List UInt8)), .blk p145 (u32s (List.set (wsP p t) t 0)) 119, .blk p154 (c8 a b_ c_ d e f g h) 120] w315 := H302.callNil H317
               have hS318 : ∃ z_ : Nat, Hp w [] [.blk p3 (by8 (bsP (outB (blocks (padM b) ((padM b).length / 64))) 32 0)) 50, .blk p9 (u32s KT) 119, .blk p13 (c8 h0 h1 h2 h3 h4 h5 h6 h7) 120, .row A27 64 c28 31 1 (dg PR), .row B_ (b.length + 1 + padZ b.length + 8) C_ 5 1 (by8 (padM b)), .row (some ⟨p53, 0, none⟩) 1 1 5 1 (by8 ([128] : List UInt8)), .blk p145 (u32s (List.set (wsP p t) t z_)) 119, .blk p154 (c8 a b_ c_ d e f g h) 120] w315 := ⟨0, H316.sub (List.Sublist.cons_cons _ (List.Sublist.cons_cons _ (List.Sublist.cons_cons _ (List.Sublist.cons_cons _ (List.Sublist.cons_cons _ (List.Sublist.cons_cons _ (List.Sublist.cons_cons _ (List.Sublist.cons_cons _ (List.Sublist.slnil)))))))))⟩
               refine ⟨_, rfl, hS318, [2, 3, 4, 7, 9, 10, 11, 12, 122, 127, 131, 138, 143, 148, 153, 160, 166], [(2, pt p3 0), (3, pt p9 0), (4, pt p13 0), (7, .slice B_ (b.length + 1 + padZ b.length + 8) C_), (9, vi (64 * j)), (10, pt p145 0), (11, pt p154 0), (12, vi t), (122, vi t), (127, vw (rt ((wsN p t).getD (t - 2) 0) 17)), (131, vw ((wsN p t).getD (t - 2) 0)), (138, vw (((wsN p t).getD (t - 2) 0) / 2 ^ 10)), (143, vw ((wsN p t).getD (t - 7) 0)), (148, vw ((wsN p t).getD (t - 15) 0)), (153, vw ((wsN p t).getD (t - 15) 0)), (160, vw (((wsN p t).getD (t - 15) 0) / 2 ^ 3)), (166, vw ((wsN p t).getD (t - 16) 0))], by kernel_rfl, ?_⟩
               refine GP.call 10 (TurnR19_calls ((wsN p t).getD (t - 2) 0) (getD_lt (wsN_lt p t) _) w315) (by kernel_rfl) (by kernel_rfl) (fun e_ w319 hR => ?_)
               obtain ⟨rfl, H321⟩ := hR
               have H320 : Hp w [] [.blk p3 (by8 (bsP (outB (blocks (padM b) ((padM b).length / 64))) 32 0)) 50, .blk p9 (u32s KT) 119, .blk p13 (c8 h0 h1 h2 h3 h4 h5 h6 h7) 120, .row A27 64 c28 31 1 (dg PR), .row B_ (b.length + 1 + padZ b.length + 8) C_ 5 1 (by8 (padM b)), .row (some ⟨p53, 0, none⟩) 1 1 5 1 (by8 ([128] : List UInt8)), .blk p145 (u32s (List.set (wsP p t) t 0)) 119, .blk p154 (c8 a b_ c_ d e f g h) 120] w319 := H316.callNil H321
               have hS322 : ∃ z_ : Nat, Hp w [] [.blk p3 (by8 (bsP (outB (blocks (padM b) ((padM b).length / 64))) 32 0)) 50, .blk p9 (u32s KT) 119, .blk p13 (c8 h0 h1 h2 h3 h4 h5 h6 h7) 120, .row A27 64 c28 31 1 (dg PR), .row B_ (b.length + 1 + padZ b.length + 8) C_ 5 1 (by8 (padM b)), .row (some ⟨p53, 0, none⟩) 1 1 5 1 (by8 ([128] : List UInt8)), .blk p145 (u32s (List.set (wsP p t) t z_)) 119, .blk p154 (c8 a b_ c_ d e f g h) 120] w319 := ⟨0, H320.sub (List.Sublist.cons_cons _ (List.Sublist.cons_cons _ (List.Sublist.cons_cons _ (List.Sublist.cons_cons _ (List.Sublist.cons_cons _ (List.Sublist.cons_cons _ (List.Sublist.cons_cons _ (List.Sublist.cons_cons _ (List.Sublist.slnil)))))))))⟩
               refine ⟨_, rfl, hS322, [2, 3, 4, 7, 9, 10, 11, 12, 122, 127, 132, 138, 143, 148, 153, 160, 166], [(2, pt p3 0), (3, pt p9 0), (4, pt p13 0), (7, .slice B_ (b.length + 1 + padZ b.length + 8) C_), (9, vi (64 * j)), (10, pt p145 0), (11, pt p154 0), (12, vi t), (122, vi t), (127, vw (rt ((wsN p t).getD (t - 2) 0) 17)), (132, vw (rt ((wsN p t).getD (t - 2) 0) 19)), (138, vw (((wsN p t).getD (t - 2) 0) / 2 ^ 10)), (143, vw ((wsN p t).getD (t - 7) 0)), (148, vw ((wsN p t).getD (t - 15) 0)), (153, vw ((wsN p t).getD (t - 15) 0)), (160, vw (((wsN p t).getD (t - 15) 0) / 2 ^ 3)), (166, vw ((wsN p t).getD (t - 16) 0))], by kernel_rfl, ?_⟩
               refine GP.r [11, 17, 22] [(2, pt p3 0), (3, pt p9 0), (4, pt p13 0), (7, .slice B_ (b.length + 1 + padZ b.length + 8) C_), (9, vi (64 * j)), (10, pt p145 0), (11, pt p154 0), (12, vi t), (122, vi t), (144, lw (IntKind.u32.wrap ((Go.bits .xor .u32 (Go.bits .xor .u32 (((rt ((wsN p t).getD (t - 2) 0) 17) : Nat) : Int) (((rt ((wsN p t).getD (t - 2) 0) 19) : Nat) : Int)) (((((wsN p t).getD (t - 2) 0) / 2 ^ 10) : Nat) : Int)) + ((((wsN p t).getD (t - 7) 0) : Nat) : Int)))), (148, vw ((wsN p t).getD (t - 15) 0)), (153, vw ((wsN p t).getD (t - 15) 0)), (160, vw (((wsN p t).getD (t - 15) 0) / 2 ^ 3)), (166, vw ((wsN p t).getD (t - 16) 0))] [0, 1, 2, 3, 4, 6, 7, 8, 9, 12, 13, 14, 15, 16, 18, 19, 20, 21, 23, 24, 25, 26, 28, 29, 30, 31, 34, 35, 36, 37, 38, 41, 42, 43, 44, 5, 10, 11, 17, 22] hS322 ?_
               have e323 : (Go.bits .xor .u32 (((rt ((wsN p t).getD (t - 2) 0) 17) : Nat) : Int) (((rt ((wsN p t).getD (t - 2) 0) 19) : Nat) : Int)) = ((((rt ((wsN p t).getD (t - 2) 0) 17) ^^^ (rt ((wsN p t).getD (t - 2) 0) 19)) : Nat) : Int) := w_xor (rt_lt (getD_lt (wsN_lt p t) _)) (rt_lt (getD_lt (wsN_lt p t) _))
               have e324 : (Go.bits .xor .u32 ((((rt ((wsN p t).getD (t - 2) 0) 17) ^^^ (rt ((wsN p t).getD (t - 2) 0) 19)) : Nat) : Int) (((((wsN p t).getD (t - 2) 0) / 2 ^ 10) : Nat) : Int)) = (((ssg1 ((wsN p t).getD (t - 2) 0)) : Nat) : Int) := w_xor (xor_lt32 (rt_lt (getD_lt (wsN_lt p t) _)) (rt_lt (getD_lt (wsN_lt p t) _))) (Nat.lt_of_le_of_lt (Nat.div_le_self _ _) (getD_lt (wsN_lt p t) _))
               have e325 : (IntKind.u32.wrap ((((ssg1 ((wsN p t).getD (t - 2) 0)) : Nat) : Int) + ((((wsN p t).getD (t - 7) 0) : Nat) : Int))) = ((((ssg1 ((wsN p t).getD (t - 2) 0)) + ((wsN p t).getD (t - 7) 0)) % W32 : Nat) : Int) := w_add _ _
               refine GP.eq (M' := [(2, pt p3 0), (3, pt p9 0), (4, pt p13 0), (7, .slice B_ (b.length + 1 + padZ b.length + 8) C_), (9, vi (64 * j)), (10, pt p145 0), (11, pt p154 0), (12, vi t), (122, vi t), (144, vw (((ssg1 ((wsN p t).getD (t - 2) 0)) + ((wsN p t).getD (t - 7) 0)) % W32)), (148, vw ((wsN p t).getD (t - 15) 0)), (153, vw ((wsN p t).getD (t - 15) 0)), (160, vw (((wsN p t).getD (t - 15) 0) / 2 ^ 3)), (166, vw ((wsN p t).getD (t - 16) 0))]) (by rw [e323, e324, e325]) ?_
               clear e323 e324 e325
               refine GP.call 27 (TurnR7_calls ((wsN p t).getD (t - 15) 0) (getD_lt (wsN_lt p t) _) w319) (by kernel_rfl) (by kernel_rfl) (fun e_ w326 hR => ?_)
               obtain ⟨rfl, H328⟩ := hR
               have H327 : Hp w [] [.blk p3 (by8 (bsP (outB (blocks (padM b) ((padM b).length / 64))) 32 0)) 50, .blk p9 (u32s KT) 119, .blk p13 (c8 h0 h1 h2 h3 h4 h5 h6 h7) 120, .row A27 64 c28 31 1 (dg PR), .row B_ (b.length + 1 + padZ b.length + 8) C_ 5 1 (by8 (padM b)), .row (some ⟨p53, 0, none⟩) 1 1 5 1 (by8 ([128] : List UInt8)), .blk p145 (u32s (List.set (wsP p t) t 0)) 119, .blk p154 (c8 a b_ c_ d e f g h) 120] w326 := H320.callNil H328
               have hS329 : ∃ z_ : Nat, Hp w [] [.blk p3 (by8 (bsP (outB (blocks (padM b) ((padM b).length / 64))) 32 0)) 50, .blk p9 (u32s KT) 119, .blk p13 (c8 h0 h1 h2 h3 h4 h5 h6 h7) 120, .row A27 64 c28 31 1 (dg PR), .row B_ (b.length + 1 + padZ b.length + 8) C_ 5 1 (by8 (padM b)), .row (some ⟨p53, 0, none⟩) 1 1 5 1 (by8 ([128] : List UInt8)), .blk p145 (u32s (List.set (wsP p t) t z_)) 119, .blk p154 (c8 a b_ c_ d e f g h) 120] w326 := ⟨0, H327.sub (List.Sublist.cons_cons _ (List.Sublist.cons_cons _ (List.Sublist.cons_cons _ (List.Sublist.cons_cons _ (List.Sublist.cons_cons _ (List.Sublist.cons_cons _ (List.Sublist.cons_cons _ (List.Sublist.cons_cons _ (List.Sublist.slnil)))))))))⟩
               refine ⟨_, rfl, hS329, [2, 3, 4, 7, 9, 10, 11, 12, 122, 144, 149, 153, 160, 166], [(2, pt p3 0), (3, pt p9 0), (4, pt p13 0), (7, .slice B_ (b.length + 1 + padZ b.length + 8) C_), (9, vi (64 * j)), (10, pt p145 0), (11, pt p154 0), (12, vi t), (122, vi t), (144, vw (((ssg1 ((wsN p t).getD (t - 2) 0)) + ((wsN p t).getD (t - 7) 0)) % W32)), (149, vw (rt ((wsN p t).getD (t - 15) 0) 7)), (153, vw ((wsN p t).getD (t - 15) 0)), (160, vw (((wsN p t).getD (t - 15) 0) / 2 ^ 3)), (166, vw ((wsN p t).getD (t - 16) 0))], by kernel_rfl, ?_⟩
               refine GP.call 32 (TurnR18_calls ((wsN p t).getD (t - 15) 0) (getD_lt (wsN_lt p t) _) w326) (by kernel_rfl) (by kernel_rfl) (fun e_ w330 hR => ?_)
               obtain ⟨rfl, H332⟩ := hR
               have H331 : Hp w [] [.blk p3 (by8 (bsP (outB (blocks (padM b) ((padM b).length / 64))) 32 0)) 50, .blk p9 (u32s KT) 119, .blk p13 (c8 h0 h1 h2 h3 h4 h5 h6 h7) 120, .row A27 64 c28 31 1 (dg PR), .row B_ (b.length + 1 + padZ b.length + 8) C_ 5 1 (by8 (padM b)), .row (some ⟨p53, 0, none⟩) 1 1 5 1 (by8 ([128] : List UInt8)), .blk p145 (u32s (List.set (wsP p t) t 0)) 119, .blk p154 (c8 a b_ c_ d e f g h) 120] w330 := H327.callNil H332
               have hS333 : ∃ z_ : Nat, Hp w [] [.blk p3 (by8 (bsP (outB (blocks (padM b) ((padM b).length / 64))) 32 0)) 50, .blk p9 (u32s KT) 119, .blk p13 (c8 h0 h1 h2 h3 h4 h5 h6 h7) 120, .row A27 64 c28 31 1 (dg PR), .row B_ (b.length + 1 + padZ b.length + 8) C_ 5 1 (by8 (padM b)), .row (some ⟨p53, 0, none⟩) 1 1 5 1 (by8 ([128] : List UInt8)), .blk p145 (u32s (List.set (wsP p t) t z_)) 119, .blk p154 (c8 a b_ c_ d e f g h) 120] w330 := ⟨0, H331.sub (List.Sublist.cons_cons _ (List.Sublist.cons_cons _ (List.Sublist.cons_cons _ (List.Sublist.cons_cons _ (List.Sublist.cons_cons _ (List.Sublist.cons_cons _ (List.Sublist.cons_cons _ (List.Sublist.cons_cons _ (List.Sublist.slnil)))))))))⟩
               refine ⟨_, rfl, hS333, [2, 3, 4, 7, 9, 10, 11, 12, 122, 144, 149, 154, 160, 166], [(2, pt p3 0), (3, pt p9 0), (4, pt p13 0), (7, .slice B_ (b.length + 1 + padZ b.length + 8) C_), (9, vi (64 * j)), (10, pt p145 0), (11, pt p154 0), (12, vi t), (122, vi t), (144, vw (((ssg1 ((wsN p t).getD (t - 2) 0)) + ((wsN p t).getD (t - 7) 0)) % W32)), (149, vw (rt ((wsN p t).getD (t - 15) 0) 7)), (154, vw (rt ((wsN p t).getD (t - 15) 0) 18)), (160, vw (((wsN p t).getD (t - 15) 0) / 2 ^ 3)), (166, vw ((wsN p t).getD (t - 16) 0))], by kernel_rfl, ?_⟩
               refine GP.r [33, 39, 40, 45] [(2, pt p3 0), (3, pt p9 0), (4, pt p13 0), (7, .slice B_ (b.length + 1 + padZ b.length + 8) C_), (9, vi (64 * j)), (10, pt p145 0), (11, pt p154 0), (12, vi t), (122, vi t), (167, lw (IntKind.u32.wrap ((IntKind.u32.wrap (((((ssg1 ((wsN p t).getD (t - 2) 0)) + ((wsN p t).getD (t - 7) 0)) % W32 : Nat) : Int) + (Go.bits .xor .u32 (Go.bits .xor .u32 (((rt ((wsN p t).getD (t - 15) 0) 7) : Nat) : Int) (((rt ((wsN p t).getD (t - 15) 0) 18) : Nat) : Int)) (((((wsN p t).getD (t - 15) 0) / 2 ^ 3) : Nat) : Int)))) + ((((wsN p t).getD (t - 16) 0) : Nat) : Int))))] [0, 1, 2, 3, 4, 6, 7, 8, 9, 12, 13, 14, 15, 16, 18, 19, 20, 21, 23, 24, 25, 26, 28, 29, 30, 31, 34, 35, 36, 37, 38, 41, 42, 43, 44, 5, 10, 11, 17, 22, 27, 32, 33, 39, 40, 45] hS333 ?_
               have e334 : (Go.bits .xor .u32 (((rt ((wsN p t).getD (t - 15) 0) 7) : Nat) : Int) (((rt ((wsN p t).getD (t - 15) 0) 18) : Nat) : Int)) = ((((rt ((wsN p t).getD (t - 15) 0) 7) ^^^ (rt ((wsN p t).getD (t - 15) 0) 18)) : Nat) : Int) := w_xor (rt_lt (getD_lt (wsN_lt p t) _)) (rt_lt (getD_lt (wsN_lt p t) _))
               have e335 : (Go.bits .xor .u32 ((((rt ((wsN p t).getD (t - 15) 0) 7) ^^^ (rt ((wsN p t).getD (t - 15) 0) 18)) : Nat) : Int) (((((wsN p t).getD (t - 15) 0) / 2 ^ 3) : Nat) : Int)) = (((ssg0 ((wsN p t).getD (t - 15) 0)) : Nat) : Int) := w_xor (xor_lt32 (rt_lt (getD_lt (wsN_lt p t) _)) (rt_lt (getD_lt (wsN_lt p t) _))) (Nat.lt_of_le_of_lt (Nat.div_le_self _ _) (getD_lt (wsN_lt p t) _))
               have e336 : (IntKind.u32.wrap (((((ssg1 ((wsN p t).getD (t - 2) 0)) + ((wsN p t).getD (t - 7) 0)) % W32 : Nat) : Int) + (((ssg0 ((wsN p t).getD (t - 15) 0)) : Nat) : Int))) = ((((ssg1 ((wsN p t).getD (t - 2) 0)) + ((wsN p t).getD (t - 7) 0) + (ssg0 ((wsN p t).getD (t - 15) 0))) % W32 : Nat) : Int) := w_addm _ _
               have e337 : (IntKind.u32.wrap (((((ssg1 ((wsN p t).getD (t - 2) 0)) + ((wsN p t).getD (t - 7) 0) + (ssg0 ((wsN p t).getD (t - 15) 0))) % W32 : Nat) : Int) + ((((wsN p t).getD (t - 16) 0) : Nat) : Int))) = ((((ssg1 ((wsN p t).getD (t - 2) 0)) + ((wsN p t).getD (t - 7) 0) + (ssg0 ((wsN p t).getD (t - 15) 0)) + ((wsN p t).getD (t - 16) 0)) % W32 : Nat) : Int) := w_addm _ _
               refine GP.eq (M' := [(2, pt p3 0), (3, pt p9 0), (4, pt p13 0), (7, .slice B_ (b.length + 1 + padZ b.length + 8) C_), (9, vi (64 * j)), (10, pt p145 0), (11, pt p154 0), (12, vi t), (122, vi t), (167, vw (((ssg1 ((wsN p t).getD (t - 2) 0)) + ((wsN p t).getD (t - 7) 0) + (ssg0 ((wsN p t).getD (t - 15) 0)) + ((wsN p t).getD (t - 16) 0)) % W32))]) (by rw [e334, e335, e336, e337]) ?_
               clear e334 e335 e336 e337
               refine GP.s 46 (fun w_ ⟨_, H_⟩ => run_idxArr (P := Try.prog) (k := .i64) (t := 119) (len := 64) (sz := 1) (b := p145) (o := 0) (j := t) (by kernel_rfl) rfl (by omega)) [(2, pt p3 0), (3, pt p9 0), (4, pt p13 0), (7, .slice B_ (b.length + 1 + padZ b.length + 8) C_), (9, vi (64 * j)), (10, pt p145 0), (11, pt p154 0), (12, vi t), (167, vw (((ssg1 ((wsN p t).getD (t - 2) 0)) + ((wsN p t).getD (t - 7) 0) + (ssg0 ((wsN p t).getD (t - 15) 0)) + ((wsN p t).getD (t - 16) 0)) % W32)), (168, pt p145 (0 + t * 1))] hS333 ?_
               obtain ⟨w338, r339, H340⟩ := H331.st (P := Try.prog) (o := (0 + t * 1)) (ty := 22) (v := vw (((ssg1 ((wsN p t).getD (t - 2) 0)) + ((wsN p t).getD (t - 7) 0) + (ssg0 ((wsN p t).getD (t - 15) 0)) + ((wsN p t).getD (t - 16) 0)) % W32)) 6 rfl (by kernel_rfl) (by rw [u32s_length, List.length_set, wsP_length (by omega)]; omega) rfl
               rw [show (0 + t * 1) = t by omega, u32s_set, List.set_set] at H340
               have H340 : Hp w [] [.blk p3 (by8 (bsP (outB (blocks (padM b) ((padM b).length / 64))) 32 0)) 50, .blk p9 (u32s KT) 119, .blk p13 (c8 h0 h1 h2 h3 h4 h5 h6 h7) 120, .row A27 64 c28 31 1 (dg PR), .row B_ (b.length + 1 + padZ b.length + 8) C_ 5 1 (by8 (padM b)), .row (some ⟨p53, 0, none⟩) 1 1 5 1 (by8 ([128] : List UInt8)), .blk p145 (u32s (List.set (wsP p t) t (((ssg1 ((wsN p t).getD (t - 2) 0)) + ((wsN p t).getD (t - 7) 0) + (ssg0 ((wsN p t).getD (t - 15) 0)) + ((wsN p t).getD (t - 16) 0)) % W32))) 119, .blk p154 (c8 a b_ c_ d e f g h) 120] w338 := H340
               have hS341 : ∃ z_ : Nat, Hp w [] [.blk p3 (by8 (bsP (outB (blocks (padM b) ((padM b).length / 64))) 32 0)) 50, .blk p9 (u32s KT) 119, .blk p13 (c8 h0 h1 h2 h3 h4 h5 h6 h7) 120, .row A27 64 c28 31 1 (dg PR), .row B_ (b.length + 1 + padZ b.length + 8) C_ 5 1 (by8 (padM b)), .row (some ⟨p53, 0, none⟩) 1 1 5 1 (by8 ([128] : List UInt8)), .blk p145 (u32s (List.set (wsP p t) t z_)) 119, .blk p154 (c8 a b_ c_ d e f g h) 120] w338 := ⟨(((ssg1 ((wsN p t).getD (t - 2) 0)) + ((wsN p t).getD (t - 7) 0) + (ssg0 ((wsN p t).getD (t - 15) 0)) + ((wsN p t).getD (t - 16) 0)) % W32), H340.sub (List.Sublist.cons_cons _ (List.Sublist.cons_cons _ (List.Sublist.cons_cons _ (List.Sublist.cons_cons _ (List.Sublist.cons_cons _ (List.Sublist.cons_cons _ (List.Sublist.cons_cons _ (List.Sublist.cons_cons _ (List.Sublist.slnil)))))))))⟩
               refine GP.semU 47 r339 [2, 3, 4, 7, 9, 10, 11, 12] [(2, pt p3 0), (3, pt p9 0), (4, pt p13 0), (7, .slice B_ (b.length + 1 + padZ b.length + 8) C_), (9, vi (64 * j)), (10, pt p145 0), (11, pt p154 0), (12, vi t)] (by kernel_rfl) rfl rfl (by kernel_rfl) hS341 ?_
               refine GP.k (by kernel_rfl) hK297 (fun _ _ h => h) ?_
               have hV : (((ssg1 ((wsN p t).getD (t - 2) 0)) + ((wsN p t).getD (t - 7) 0) + (ssg0 ((wsN p t).getD (t - 15) 0)) + ((wsN p t).getD (t - 16) 0)) % W32) = if t < 16 then beF p (4 * t) 4 else ((wsN p t).getD (t - 16) 0 + ssg0 ((wsN p t).getD (t - 15) 0) + (wsN p t).getD (t - 7) 0 + ssg1 ((wsN p t).getD (t - 2) 0)) % W32 := by rw [if_neg (by omega)]; show (_ : Nat) % W32 = _ % W32; congr 1; omega
               have H342 : Hp w [] [.blk p3 (by8 (bsP (outB (blocks (padM b) ((padM b).length / 64))) 32 0)) 50, .blk p9 (u32s KT) 119, .blk p13 (c8 h0 h1 h2 h3 h4 h5 h6 h7) 120, .row A27 64 c28 31 1 (dg PR), .row B_ (b.length + 1 + padZ b.length + 8) C_ 5 1 (by8 (padM b)), .row (some ⟨p53, 0, none⟩) 1 1 5 1 (by8 ([128] : List UInt8)), .blk p145 (u32s (wsP p (t + 1))) 119, .blk p154 (c8 a b_ c_ d e f g h) 120] w338 := by rw [← wsP_set (v := (((ssg1 ((wsN p t).getD (t - 2) 0)) + ((wsN p t).getD (t - 7) 0) + (ssg0 ((wsN p t).getD (t - 15) 0)) + ((wsN p t).getD (t - 16) 0)) % W32)) (by omega) hV]; exact H340
               refine G.fit [2, 3, 4, 7, 9, 10, 11, 12] (M' := [(2, pt p3 0), (3, pt p9 0), (4, pt p13 0), (7, .slice B_ (b.length + 1 + padZ b.length + 8) C_), (9, vi (64 * j)), (10, pt p145 0), (11, pt p154 0), (12, vi t)]) (by kernel_rfl) ?_
               exact J295 () _ ⟨trivial, H342⟩
             · skip
               have hb300f := of_decide_eq_true hb300
               refine G.yes rfl ?_
               refine G.tail 43 (by kernel_rfl) (by kernel_rfl) ?_
               have H343 := H167.drew
               generalize ({ w165 with drawn := w165.drawn + 1 } : World) = w344 at H343 ⊢
               refine GS.r 6 6 [(2, pt p3 0), (3, pt p9 0), (4, pt p13 0), (7, .slice B_ (b.length + 1 + padZ b.length + 8) C_), (9, vi (64 * j)), (10, pt p145 0), (11, pt p154 0), (12, vi t), (79, vi t), (80, .slice B_ (b.length + 1 + padZ b.length + 8) C_), (84, li (IntKind.i64.wrap ((((64 * j) : Nat) : Int) + (IntKind.i64.wrap (4 * (t : Int))))))] ?_
               have e345 : (IntKind.i64.wrap (4 * (t : Int))) = ((4 * t : Nat) : Int) := by rw [in_i64 (by omega)]; omega
               have e346 : (IntKind.i64.wrap ((((64 * j) : Nat) : Int) + ((4 * t : Nat) : Int))) = (((64 * j) + (4 * t) : Nat) : Int) := by rw [in_i64 (by omega)]; omega
               rw [e345, e346]
               clear e345 e346
               refine GS.s 7 (run_idxRd (P := Try.prog) (k := .i64) (t := 38) (A := B_) (len := (b.length + 1 + padZ b.length + 8)) (cap := C_) (j := (64 * j) + (4 * t)) (by kernel_rfl) rfl (H343.rdRow 4 rfl) (by rw [by8_length]; first | rfl | omega | (simp only [List.length_cons, List.length_nil, List.length_drop, List.length_take, List.length_append] <;> omega)) (by first | rfl | omega | (simp only [List.length_cons, List.length_nil, List.length_drop, List.length_take, List.length_append] <;> omega))) [(2, pt p3 0), (3, pt p9 0), (4, pt p13 0), (7, .slice B_ (b.length + 1 + padZ b.length + 8) C_), (9, vi (64 * j)), (10, pt p145 0), (11, pt p154 0), (12, vi t), (79, vi t), (85, .pointer (Option.map (fun x => Addr.add x ((64 * j) + (4 * t))) B_))] ?_
               refine GS.s 8 (run_ldRd (P := Try.prog) (ty := 5) (A := B_) (j := (64 * j) + (4 * t)) (v := .int .u8 (((padM b).getD ((64 * j) + (4 * t)) 0).toNat : Int)) (by kernel_rfl) (H343.rdRow 4 rfl) (by8_at (getD8 (by omega)))) [(2, pt p3 0), (3, pt p9 0), (4, pt p13 0), (7, .slice B_ (b.length + 1 + padZ b.length + 8) C_), (9, vi (64 * j)), (10, pt p145 0), (11, pt p154 0), (12, vi t), (79, vi t), (86, lb (((padM b).getD ((64 * j) + (4 * t)) 0).toNat : Int))] ?_
               refine GS.r 16 8 [(2, pt p3 0), (3, pt p9 0), (4, pt p13 0), (7, .slice B_ (b.length + 1 + padZ b.length + 8) C_), (9, vi (64 * j)), (10, pt p145 0), (11, pt p154 0), (12, vi t), (79, vi t), (88, lw (IntKind.u32.wrap ((IntKind.u32.wrap (((padM b).getD ((64 * j) + (4 * t)) 0).toNat : Int)) * 2 ^ 24))), (89, .slice B_ (b.length + 1 + padZ b.length + 8) C_), (94, li (IntKind.i64.wrap ((IntKind.i64.wrap ((((64 * j) : Nat) : Int) + (IntKind.i64.wrap (4 * (t : Int))))) + 1)))] ?_
               have e347 : (IntKind.u32.wrap (((padM b).getD ((64 * j) + (4 * t)) 0).toNat : Int)) = (((padM b).getD ((64 * j) + (4 * t)) 0).toNat : Int) := u8_up_u32 _
               have e348 : (IntKind.u32.wrap ((((padM b).getD ((64 * j) + (4 * t)) 0).toNat : Int) * 2 ^ 24)) = (((((padM b).getD ((64 * j) + (4 * t)) 0).toNat * 16777216) : Nat) : Int) := w_shlB 24 16777216 rfl (by have := UInt8.toNat_lt ((padM b).getD ((64 * j) + (4 * t)) 0); simp only [W32]; omega)
               have e349 : (IntKind.i64.wrap (4 * (t : Int))) = ((4 * t : Nat) : Int) := by rw [in_i64 (by omega)]; omega
               have e350 : (IntKind.i64.wrap ((((64 * j) : Nat) : Int) + ((4 * t : Nat) : Int))) = (((64 * j) + (4 * t) : Nat) : Int) := by rw [in_i64 (by omega)]; omega
               have e351 : (IntKind.i64.wrap ((((64 * j) + (4 * t) : Nat) : Int) + 1)) = ((((64 * j) + (4 * t)) + 1 : Nat) : Int) := by rw [in_i64 (by omega)]; omega
               rw [e347, e348, e349, e350, e351]
               clear e347 e348 e349 e350 e351
               refine GS.s 17 (run_idxRd (P := Try.prog) (k := .i64) (t := 38) (A := B_) (len := (b.length + 1 + padZ b.length + 8)) (cap := C_) (j := ((64 * j) + (4 * t)) + 1) (by kernel_rfl) rfl (H343.rdRow 4 rfl) (by rw [by8_length]; first | rfl | omega | (simp only [List.length_cons, List.length_nil, List.length_drop, List.length_take, List.length_append] <;> omega)) (by first | rfl | omega | (simp only [List.length_cons, List.length_nil, List.length_drop, List.length_take, List.length_append] <;> omega))) [(2, pt p3 0), (3, pt p9 0), (4, pt p13 0), (7, .slice B_ (b.length + 1 + padZ b.length + 8) C_), (9, vi (64 * j)), (10, pt p145 0), (11, pt p154 0), (12, vi t), (79, vi t), (88, vw (((padM b).getD ((64 * j) + (4 * t)) 0).toNat * 16777216)), (95, .pointer (Option.map (fun x => Addr.add x (((64 * j) + (4 * t)) + 1)) B_))] ?_
               refine GS.s 18 (run_ldRd (P := Try.prog) (ty := 5) (A := B_) (j := ((64 * j) + (4 * t)) + 1) (v := .int .u8 (((padM b).getD (((64 * j) + (4 * t)) + 1) 0).toNat : Int)) (by kernel_rfl) (H343.rdRow 4 rfl) (by8_at (getD8 (by omega)))) [(2, pt p3 0), (3, pt p9 0), (4, pt p13 0), (7, .slice B_ (b.length + 1 + padZ b.length + 8) C_), (9, vi (64 * j)), (10, pt p145 0), (11, pt p154 0), (12, vi t), (79, vi t), (88, vw (((padM b).getD ((64 * j) + (4 * t)) 0).toNat * 16777216)), (96, lb (((padM b).getD (((64 * j) + (4 * t)) + 1) 0).toNat : Int))] ?_
               refine GS.r 27 9 [(2, pt p3 0), (3, pt p9 0), (4, pt p13 0), (7, .slice B_ (b.length + 1 + padZ b.length + 8) C_), (9, vi (64 * j)), (10, pt p145 0), (11, pt p154 0), (12, vi t), (79, vi t), (99, lw (Go.bits .or .u32 (((((padM b).getD ((64 * j) + (4 * t)) 0).toNat * 16777216) : Nat) : Int) (IntKind.u32.wrap ((IntKind.u32.wrap (((padM b).getD (((64 * j) + (4 * t)) + 1) 0).toNat : Int)) * 2 ^ 16)))), (100, .slice B_ (b.length + 1 + padZ b.length + 8) C_), (105, li (IntKind.i64.wrap ((IntKind.i64.wrap ((((64 * j) : Nat) : Int) + (IntKind.i64.wrap (4 * (t : Int))))) + 2)))] ?_
               have e352 : (IntKind.u32.wrap (((padM b).getD (((64 * j) + (4 * t)) + 1) 0).toNat : Int)) = (((padM b).getD (((64 * j) + (4 * t)) + 1) 0).toNat : Int) := u8_up_u32 _
               have e353 : (IntKind.u32.wrap ((((padM b).getD (((64 * j) + (4 * t)) + 1) 0).toNat : Int) * 2 ^ 16)) = (((((padM b).getD (((64 * j) + (4 * t)) + 1) 0).toNat * 65536) : Nat) : Int) := w_shlB 16 65536 rfl (by have := UInt8.toNat_lt ((padM b).getD (((64 * j) + (4 * t)) + 1) 0); simp only [W32]; omega)
               have e354 : (Go.bits .or .u32 (((((padM b).getD ((64 * j) + (4 * t)) 0).toNat * 16777216) : Nat) : Int) (((((padM b).getD (((64 * j) + (4 * t)) + 1) 0).toNat * 65536) : Nat) : Int)) = (((((padM b).getD ((64 * j) + (4 * t)) 0).toNat * 16777216 + ((padM b).getD (((64 * j) + (4 * t)) + 1) 0).toNat * 65536) : Nat) : Int) := by have h0_ := UInt8.toNat_lt ((padM b).getD ((64 * j) + (4 * t)) 0); have h1_ := UInt8.toNat_lt ((padM b).getD (((64 * j) + (4 * t)) + 1) 0); have e_ := w_orA (x := ((padM b).getD ((64 * j) + (4 * t)) 0).toNat) (y := (((padM b).getD (((64 * j) + (4 * t)) + 1) 0).toNat * 65536)) 24 16777216 rfl (by omega) (by simp only [W32]; omega); rw [show ((padM b).getD ((64 * j) + (4 * t)) 0).toNat * 16777216 = (((padM b).getD ((64 * j) + (4 * t)) 0).toNat * 16777216) by omega] at e_; rw [e_]
               have e355 : (IntKind.i64.wrap (4 * (t : Int))) = ((4 * t : Nat) : Int) := by rw [in_i64 (by omega)]; omega
               have e356 : (IntKind.i64.wrap ((((64 * j) : Nat) : Int) + ((4 * t : Nat) : Int))) = (((64 * j) + (4 * t) : Nat) : Int) := by rw [in_i64 (by omega)]; omega
               have e357 : (IntKind.i64.wrap ((((64 * j) + (4 * t) : Nat) : Int) + 2)) = ((((64 * j) + (4 * t)) + 2 : Nat) : Int) := by rw [in_i64 (by omega)]; omega
               rw [e352, e353, e354, e355, e356, e357]
               clear e352 e353 e354 e355 e356 e357
               refine GS.s 28 (run_idxRd (P := Try.prog) (k := .i64) (t := 38) (A := B_) (len := (b.length + 1 + padZ b.length + 8)) (cap := C_) (j := ((64 * j) + (4 * t)) + 2) (by kernel_rfl) rfl (H343.rdRow 4 rfl) (by rw [by8_length]; first | rfl | omega | (simp only [List.length_cons, List.length_nil, List.length_drop, List.length_take, List.length_append] <;> omega)) (by first | rfl | omega | (simp only [List.length_cons, List.length_nil, List.length_drop, List.length_take, List.length_append] <;> omega))) [(2, pt p3 0), (3, pt p9 0), (4, pt p13 0), (7, .slice B_ (b.length + 1 + padZ b.length + 8) C_), (9, vi (64 * j)), (10, pt p145 0), (11, pt p154 0), (12, vi t), (79, vi t), (99, vw (((padM b).getD ((64 * j) + (4 * t)) 0).toNat * 16777216 + ((padM b).getD (((64 * j) + (4 * t)) + 1) 0).toNat * 65536)), (106, .pointer (Option.map (fun x => Addr.add x (((64 * j) + (4 * t)) + 2)) B_))] ?_
               refine GS.s 29 (run_ldRd (P := Try.prog) (ty := 5) (A := B_) (j := ((64 * j) + (4 * t)) + 2) (v := .int .u8 (((padM b).getD (((64 * j) + (4 * t)) + 2) 0).toNat : Int)) (by kernel_rfl) (H343.rdRow 4 rfl) (by8_at (getD8 (by omega)))) [(2, pt p3 0), (3, pt p9 0), (4, pt p13 0), (7, .slice B_ (b.length + 1 + padZ b.length + 8) C_), (9, vi (64 * j)), (10, pt p145 0), (11, pt p154 0), (12, vi t), (79, vi t), (99, vw (((padM b).getD ((64 * j) + (4 * t)) 0).toNat * 16777216 + ((padM b).getD (((64 * j) + (4 * t)) + 1) 0).toNat * 65536)), (107, lb (((padM b).getD (((64 * j) + (4 * t)) + 2) 0).toNat : Int))] ?_
               refine GS.r 38 9 [(2, pt p3 0), (3, pt p9 0), (4, pt p13 0), (7, .slice B_ (b.length + 1 + padZ b.length + 8) C_), (9, vi (64 * j)), (10, pt p145 0), (11, pt p154 0), (12, vi t), (79, vi t), (110, lw (Go.bits .or .u32 (((((padM b).getD ((64 * j) + (4 * t)) 0).toNat * 16777216 + ((padM b).getD (((64 * j) + (4 * t)) + 1) 0).toNat * 65536) : Nat) : Int) (IntKind.u32.wrap ((IntKind.u32.wrap (((padM b).getD (((64 * j) + (4 * t)) + 2) 0).toNat : Int)) * 2 ^ 8)))), (111, .slice B_ (b.length + 1 + padZ b.length + 8) C_), (116, li (IntKind.i64.wrap ((IntKind.i64.wrap ((((64 * j) : Nat) : Int) + (IntKind.i64.wrap (4 * (t : Int))))) + 3)))] ?_
               have e358 : (IntKind.u32.wrap (((padM b).getD (((64 * j) + (4 * t)) + 2) 0).toNat : Int)) = (((padM b).getD (((64 * j) + (4 * t)) + 2) 0).toNat : Int) := u8_up_u32 _
               have e359 : (IntKind.u32.wrap ((((padM b).getD (((64 * j) + (4 * t)) + 2) 0).toNat : Int) * 2 ^ 8)) = (((((padM b).getD (((64 * j) + (4 * t)) + 2) 0).toNat * 256) : Nat) : Int) := w_shlB 8 256 rfl (by have := UInt8.toNat_lt ((padM b).getD (((64 * j) + (4 * t)) + 2) 0); simp only [W32]; omega)
               have e360 : (Go.bits .or .u32 (((((padM b).getD ((64 * j) + (4 * t)) 0).toNat * 16777216 + ((padM b).getD (((64 * j) + (4 * t)) + 1) 0).toNat * 65536) : Nat) : Int) (((((padM b).getD (((64 * j) + (4 * t)) + 2) 0).toNat * 256) : Nat) : Int)) = (((((padM b).getD ((64 * j) + (4 * t)) 0).toNat * 16777216 + ((padM b).getD (((64 * j) + (4 * t)) + 1) 0).toNat * 65536 + ((padM b).getD (((64 * j) + (4 * t)) + 2) 0).toNat * 256) : Nat) : Int) := by have h0_ := UInt8.toNat_lt ((padM b).getD ((64 * j) + (4 * t)) 0); have h1_ := UInt8.toNat_lt ((padM b).getD (((64 * j) + (4 * t)) + 1) 0); have h2_ := UInt8.toNat_lt ((padM b).getD (((64 * j) + (4 * t)) + 2) 0); have e_ := w_orA (x := (((padM b).getD ((64 * j) + (4 * t)) 0).toNat * 256 + ((padM b).getD (((64 * j) + (4 * t)) + 1) 0).toNat)) (y := (((padM b).getD (((64 * j) + (4 * t)) + 2) 0).toNat * 256)) 16 65536 rfl (by omega) (by simp only [W32]; omega); rw [show (((padM b).getD ((64 * j) + (4 * t)) 0).toNat * 256 + ((padM b).getD (((64 * j) + (4 * t)) + 1) 0).toNat) * 65536 = (((padM b).getD ((64 * j) + (4 * t)) 0).toNat * 16777216 + ((padM b).getD (((64 * j) + (4 * t)) + 1) 0).toNat * 65536) by omega] at e_; rw [e_]
               have e361 : (IntKind.i64.wrap (4 * (t : Int))) = ((4 * t : Nat) : Int) := by rw [in_i64 (by omega)]; omega
               have e362 : (IntKind.i64.wrap ((((64 * j) : Nat) : Int) + ((4 * t : Nat) : Int))) = (((64 * j) + (4 * t) : Nat) : Int) := by rw [in_i64 (by omega)]; omega
               have e363 : (IntKind.i64.wrap ((((64 * j) + (4 * t) : Nat) : Int) + 3)) = ((((64 * j) + (4 * t)) + 3 : Nat) : Int) := by rw [in_i64 (by omega)]; omega
               rw [e358, e359, e360, e361, e362, e363]
               clear e358 e359 e360 e361 e362 e363
               refine GS.s 39 (run_idxRd (P := Try.prog) (k := .i64) (t := 38) (A := B_) (len := (b.length + 1 + padZ b.length + 8)) (cap := C_) (j := ((64 * j) + (4 * t)) + 3) (by kernel_rfl) rfl (H343.rdRow 4 rfl) (by rw [by8_length]; first | rfl | omega | (simp only [List.length_cons, List.length_nil, List.length_drop, List.length_take, List.length_append] <;> omega)) (by first | rfl | omega | (simp only [List.length_cons, List.length_nil, List.length_drop, List.length_take, List.length_append] <;> omega))) [(2, pt p3 0), (3, pt p9 0), (4, pt p13 0), (7, .slice B_ (b.length + 1 + padZ b.length + 8) C_), (9, vi (64 * j)), (10, pt p145 0), (11, pt p154 0), (12, vi t), (79, vi t), (110, vw (((padM b).getD ((64 * j) + (4 * t)) 0).toNat * 16777216 + ((padM b).getD (((64 * j) + (4 * t)) + 1) 0).toNat * 65536 + ((padM b).getD (((64 * j) + (4 * t)) + 2) 0).toNat * 256)), (117, .pointer (Option.map (fun x => Addr.add x (((64 * j) + (4 * t)) + 3)) B_))] ?_
               refine GS.s 40 (run_ldRd (P := Try.prog) (ty := 5) (A := B_) (j := ((64 * j) + (4 * t)) + 3) (v := .int .u8 (((padM b).getD (((64 * j) + (4 * t)) + 3) 0).toNat : Int)) (by kernel_rfl) (H343.rdRow 4 rfl) (by8_at (getD8 (by omega)))) [(2, pt p3 0), (3, pt p9 0), (4, pt p13 0), (7, .slice B_ (b.length + 1 + padZ b.length + 8) C_), (9, vi (64 * j)), (10, pt p145 0), (11, pt p154 0), (12, vi t), (79, vi t), (110, vw (((padM b).getD ((64 * j) + (4 * t)) 0).toNat * 16777216 + ((padM b).getD (((64 * j) + (4 * t)) + 1) 0).toNat * 65536 + ((padM b).getD (((64 * j) + (4 * t)) + 2) 0).toNat * 256)), (118, lb (((padM b).getD (((64 * j) + (4 * t)) + 3) 0).toNat : Int))] ?_
               refine GS.r 42 2 [(2, pt p3 0), (3, pt p9 0), (4, pt p13 0), (7, .slice B_ (b.length + 1 + padZ b.length + 8) C_), (9, vi (64 * j)), (10, pt p145 0), (11, pt p154 0), (12, vi t), (79, vi t), (120, lw (Go.bits .or .u32 (((((padM b).getD ((64 * j) + (4 * t)) 0).toNat * 16777216 + ((padM b).getD (((64 * j) + (4 * t)) + 1) 0).toNat * 65536 + ((padM b).getD (((64 * j) + (4 * t)) + 2) 0).toNat * 256) : Nat) : Int) (IntKind.u32.wrap (((padM b).getD (((64 * j) + (4 * t)) + 3) 0).toNat : Int))))] ?_
               have e364 : (IntKind.u32.wrap (((padM b).getD (((64 * j) + (4 * t)) + 3) 0).toNat : Int)) = (((padM b).getD (((64 * j) + (4 * t)) + 3) 0).toNat : Int) := u8_up_u32 _
               have e365 : (Go.bits .or .u32 (((((padM b).getD ((64 * j) + (4 * t)) 0).toNat * 16777216 + ((padM b).getD (((64 * j) + (4 * t)) + 1) 0).toNat * 65536 + ((padM b).getD (((64 * j) + (4 * t)) + 2) 0).toNat * 256) : Nat) : Int) (((padM b).getD (((64 * j) + (4 * t)) + 3) 0).toNat : Int)) = (((((padM b).getD ((64 * j) + (4 * t)) 0).toNat * 16777216 + ((padM b).getD (((64 * j) + (4 * t)) + 1) 0).toNat * 65536 + ((padM b).getD (((64 * j) + (4 * t)) + 2) 0).toNat * 256 + ((padM b).getD (((64 * j) + (4 * t)) + 3) 0).toNat) : Nat) : Int) := by have h0_ := UInt8.toNat_lt ((padM b).getD ((64 * j) + (4 * t)) 0); have h1_ := UInt8.toNat_lt ((padM b).getD (((64 * j) + (4 * t)) + 1) 0); have h2_ := UInt8.toNat_lt ((padM b).getD (((64 * j) + (4 * t)) + 2) 0); have h3_ := UInt8.toNat_lt ((padM b).getD (((64 * j) + (4 * t)) + 3) 0); have e_ := w_orA (x := (((padM b).getD ((64 * j) + (4 * t)) 0).toNat * 65536 + ((padM b).getD (((64 * j) + (4 * t)) + 1) 0).toNat * 256 + ((padM b).getD (((64 * j) + (4 * t)) + 2) 0).toNat)) (y := (((padM b).getD (((64 * j) + (4 * t)) + 3) 0).toNat)) 8 256 rfl (by omega) (by simp only [W32]; omega); rw [show (((padM b).getD ((64 * j) + (4 * t)) 0).toNat * 65536 + ((padM b).getD (((64 * j) + (4 * t)) + 1) 0).toNat * 256 + ((padM b).getD (((64 * j) + (4 * t)) + 2) 0).toNat) * 256 = (((padM b).getD ((64 * j) + (4 * t)) 0).toNat * 16777216 + ((padM b).getD (((64 * j) + (4 * t)) + 1) 0).toNat * 65536 + ((padM b).getD (((64 * j) + (4 * t)) + 2) 0).toNat * 256) by omega] at e_; rw [e_]
               rw [e364, e365]
               clear e364 e365
               refine GS.s 43 (run_idxArr (P := Try.prog) (k := .i64) (t := 119) (len := 64) (sz := 1) (b := p145) (o := 0) (j := t) (by kernel_rfl) rfl (by omega)) [(2, pt p3 0), (3, pt p9 0), (4, pt p13 0), (7, .slice B_ (b.length + 1 + padZ b.length + 8) C_), (9, vi (64 * j)), (10, pt p145 0), (11, pt p154 0), (12, vi t), (120, lw (((((padM b).getD ((64 * j) + (4 * t)) 0).toNat * 16777216 + ((padM b).getD (((64 * j) + (4 * t)) + 1) 0).toNat * 65536 + ((padM b).getD (((64 * j) + (4 * t)) + 2) 0).toNat * 256 + ((padM b).getD (((64 * j) + (4 * t)) + 3) 0).toNat) : Nat) : Int)), (121, pt p145 (0 + t * 1))] ?_
               refine GS.tail rfl ?_
               obtain ⟨w366, r367, H368⟩ := H343.st (P := Try.prog) (o := (0 + t * 1)) (ty := 22) (v := .int .u32 (((((padM b).getD ((64 * j) + (4 * t)) 0).toNat * 16777216 + ((padM b).getD (((64 * j) + (4 * t)) + 1) 0).toNat * 65536 + ((padM b).getD (((64 * j) + (4 * t)) + 2) 0).toNat * 256 + ((padM b).getD (((64 * j) + (4 * t)) + 3) 0).toNat) : Nat) : Int)) 6 rfl (by kernel_rfl) (by rw [u32s_length, wsP_length (by omega)]; omega) rfl
               rw [show (0 + t * 1) = t by omega, u32s_set] at H368
               have H368 : Hp w [] [.blk p3 (by8 (bsP (outB (blocks (padM b) ((padM b).length / 64))) 32 0)) 50, .blk p9 (u32s KT) 119, .blk p13 (c8 h0 h1 h2 h3 h4 h5 h6 h7) 120, .row A27 64 c28 31 1 (dg PR), .row B_ (b.length + 1 + padZ b.length + 8) C_ 5 1 (by8 (padM b)), .row (some ⟨p53, 0, none⟩) 1 1 5 1 (by8 ([128] : List UInt8)), .blk p145 (u32s (List.set (wsP p t) t (((padM b).getD ((64 * j) + (4 * t)) 0).toNat * 16777216 + ((padM b).getD (((64 * j) + (4 * t)) + 1) 0).toNat * 65536 + ((padM b).getD (((64 * j) + (4 * t)) + 2) 0).toNat * 256 + ((padM b).getD (((64 * j) + (4 * t)) + 3) 0).toNat))) 119, .blk p154 (c8 a b_ c_ d e f g h) 120] w366 := H368
               refine GL.u 44 r367 [(2, pt p3 0), (3, pt p9 0), (4, pt p13 0), (7, .slice B_ (b.length + 1 + padZ b.length + 8) C_), (9, vi (64 * j)), (10, pt p145 0), (11, pt p154 0), (12, vi t)] ?_
               refine GL.q hK297 ?_
               have hV : (((padM b).getD ((64 * j) + (4 * t)) 0).toNat * 16777216 + ((padM b).getD (((64 * j) + (4 * t)) + 1) 0).toNat * 65536 + ((padM b).getD (((64 * j) + (4 * t)) + 2) 0).toNat * 256 + ((padM b).getD (((64 * j) + (4 * t)) + 3) 0).toNat) = if t < 16 then beF p (4 * t) 4 else ((wsN p t).getD (t - 16) 0 + ssg0 ((wsN p t).getD (t - 15) 0) + (wsN p t).getD (t - 7) 0 + ssg1 ((wsN p t).getD (t - 2) 0)) % W32 := by rw [if_pos (by omega), be4, hp, part_at (by omega), part_at (by omega), part_at (by omega), part_at (by omega)]; rfl
               have H369 : Hp w [] [.blk p3 (by8 (bsP (outB (blocks (padM b) ((padM b).length / 64))) 32 0)) 50, .blk p9 (u32s KT) 119, .blk p13 (c8 h0 h1 h2 h3 h4 h5 h6 h7) 120, .row A27 64 c28 31 1 (dg PR), .row B_ (b.length + 1 + padZ b.length + 8) C_ 5 1 (by8 (padM b)), .row (some ⟨p53, 0, none⟩) 1 1 5 1 (by8 ([128] : List UInt8)), .blk p145 (u32s (wsP p (t + 1))) 119, .blk p154 (c8 a b_ c_ d e f g h) 120] w366 := by rw [← wsP_set (v := (((padM b).getD ((64 * j) + (4 * t)) 0).toNat * 16777216 + ((padM b).getD (((64 * j) + (4 * t)) + 1) 0).toNat * 65536 + ((padM b).getD (((64 * j) + (4 * t)) + 2) 0).toNat * 256 + ((padM b).getD (((64 * j) + (4 * t)) + 3) 0).toNat)) (by omega) hV]; exact H368
               refine G.fit [2, 3, 4, 7, 9, 10, 11, 12] (M' := [(2, pt p3 0), (3, pt p9 0), (4, pt p13 0), (7, .slice B_ (b.length + 1 + padZ b.length + 8) C_), (9, vi (64 * j)), (10, pt p145 0), (11, pt p154 0), (12, vi t)]) (by kernel_rfl) ?_
               exact J295 () _ ⟨trivial, H369⟩
           · skip
             rintro u_ w370 ⟨hi371, H372⟩
             refine G.eq (M' := [(2, pt p3 0), (3, pt p9 0), (4, pt p13 0), (7, .slice B_ (b.length + 1 + padZ b.length + 8) C_), (9, vi (64 * j)), (10, pt p145 0), (11, pt p154 0), (12, vi t)]) rfl ?_
             have hst : (wsN p 64).getD t 0 = (wsN p (t + 1)).getD t 0 := by rw [show 64 = (t + 1) + (63 - t) by omega]; exact wsN_stable p (by omega) _
             refine G.seqK fun K373 hK374 => ?_
             refine G.heldP (Hp w [] [.blk p3 (by8 (bsP (outB (blocks (padM b) ((padM b).length / 64))) 32 0)) 50, .blk p9 (u32s KT) 119, .blk p13 (c8 h0 h1 h2 h3 h4 h5 h6 h7) 120, .row A27 64 c28 31 1 (dg PR), .row B_ (b.length + 1 + padZ b.length + 8) C_ 5 1 (by8 (padM b)), .row (some ⟨p53, 0, none⟩) 1 1 5 1 (by8 ([128] : List UInt8)), .blk p145 (u32s (wsP p (t + 1))) 119, .blk p154 (c8 a b_ c_ d e f g h) 120]) (by kernel_rfl) (by kernel_rfl) (fun c_ a_ d_ v_ w_ h_ => hPan c_ a_ d_ v_ w_ h_) ?_
             have H375 := H372.drew
             generalize ({ w370 with drawn := w370.drawn + 1 } : World) = w376 at H375 ⊢
             have hS377 : Hp w [] [.blk p3 (by8 (bsP (outB (blocks (padM b) ((padM b).length / 64))) 32 0)) 50, .blk p9 (u32s KT) 119, .blk p13 (c8 h0 h1 h2 h3 h4 h5 h6 h7) 120, .row A27 64 c28 31 1 (dg PR), .row B_ (b.length + 1 + padZ b.length + 8) C_ 5 1 (by8 (padM b)), .row (some ⟨p53, 0, none⟩) 1 1 5 1 (by8 ([128] : List UInt8)), .blk p145 (u32s (wsP p (t + 1))) 119, .blk p154 (c8 a b_ c_ d e f g h) 120] w376 := H375.sub (List.Sublist.cons_cons _ (List.Sublist.cons_cons _ (List.Sublist.cons_cons _ (List.Sublist.cons_cons _ (List.Sublist.cons_cons _ (List.Sublist.cons_cons _ (List.Sublist.cons_cons _ (List.Sublist.cons_cons _ (List.Sublist.slnil)))))))))
             refine GP.r [0] [(2, pt p3 0), (3, pt p9 0), (4, pt p13 0), (7, .slice B_ (b.length + 1 + padZ b.length + 8) C_), (9, vi (64 * j)), (10, pt p145 0), (11, pt p154 0), (12, vi t), (169, pt p154 7)] [0] hS377 ?_
             refine GP.s 1 (fun w_ H_ => H_.ld (o := 7) (ty := 22) (v := vw h) 7 rfl (by kernel_rfl) rfl) [(2, pt p3 0), (3, pt p9 0), (4, pt p13 0), (7, .slice B_ (b.length + 1 + padZ b.length + 8) C_), (9, vi (64 * j)), (10, pt p145 0), (11, pt p154 0), (12, vi t), (170, vw h)] hS377 ?_
             refine GP.r [2] [(2, pt p3 0), (3, pt p9 0), (4, pt p13 0), (7, .slice B_ (b.length + 1 + padZ b.length + 8) C_), (9, vi (64 * j)), (10, pt p145 0), (11, pt p154 0), (12, vi t), (170, vw h), (171, pt p154 4)] [0, 1, 2] hS377 ?_
             refine GP.s 3 (fun w_ H_ => H_.ld (o := 4) (ty := 22) (v := vw e) 7 rfl (by kernel_rfl) rfl) [(2, pt p3 0), (3, pt p9 0), (4, pt p13 0), (7, .slice B_ (b.length + 1 + padZ b.length + 8) C_), (9, vi (64 * j)), (10, pt p145 0), (11, pt p154 0), (12, vi t), (170, vw h), (172, vw e)] hS377 ?_
             refine GP.r [5] [(2, pt p3 0), (3, pt p9 0), (4, pt p13 0), (7, .slice B_ (b.length + 1 + padZ b.length + 8) C_), (9, vi (64 * j)), (10, pt p145 0), (11, pt p154 0), (12, vi t), (170, vw h), (172, vw e), (174, pt p154 4)] [0, 1, 2, 3, 5] hS377 ?_
             refine GP.s 6 (fun w_ H_ => H_.ld (o := 4) (ty := 22) (v := vw e) 7 rfl (by kernel_rfl) rfl) [(2, pt p3 0), (3, pt p9 0), (4, pt p13 0), (7, .slice B_ (b.length + 1 + padZ b.length + 8) C_), (9, vi (64 * j)), (10, pt p145 0), (11, pt p154 0), (12, vi t), (170, vw h), (172, vw e), (175, vw e)] hS377 ?_
             refine GP.r [9] [(2, pt p3 0), (3, pt p9 0), (4, pt p13 0), (7, .slice B_ (b.length + 1 + padZ b.length + 8) C_), (9, vi (64 * j)), (10, pt p145 0), (11, pt p154 0), (12, vi t), (170, vw h), (172, vw e), (175, vw e), (178, pt p154 4)] [0, 1, 2, 3, 5, 6, 9] hS377 ?_
             refine GP.s 10 (fun w_ H_ => H_.ld (o := 4) (ty := 22) (v := vw e) 7 rfl (by kernel_rfl) rfl) [(2, pt p3 0), (3, pt p9 0), (4, pt p13 0), (7, .slice B_ (b.length + 1 + padZ b.length + 8) C_), (9, vi (64 * j)), (10, pt p145 0), (11, pt p154 0), (12, vi t), (170, vw h), (172, vw e), (175, vw e), (179, vw e)] hS377 ?_
             refine GP.r [14] [(2, pt p3 0), (3, pt p9 0), (4, pt p13 0), (7, .slice B_ (b.length + 1 + padZ b.length + 8) C_), (9, vi (64 * j)), (10, pt p145 0), (11, pt p154 0), (12, vi t), (170, vw h), (172, vw e), (175, vw e), (179, vw e), (183, pt p154 4)] [0, 1, 2, 3, 5, 6, 9, 10, 14] hS377 ?_
             refine GP.s 15 (fun w_ H_ => H_.ld (o := 4) (ty := 22) (v := vw e) 7 rfl (by kernel_rfl) rfl) [(2, pt p3 0), (3, pt p9 0), (4, pt p13 0), (7, .slice B_ (b.length + 1 + padZ b.length + 8) C_), (9, vi (64 * j)), (10, pt p145 0), (11, pt p154 0), (12, vi t), (170, vw h), (172, vw e), (175, vw e), (179, vw e), (184, vw e)] hS377 ?_
             refine GP.r [16] [(2, pt p3 0), (3, pt p9 0), (4, pt p13 0), (7, .slice B_ (b.length + 1 + padZ b.length + 8) C_), (9, vi (64 * j)), (10, pt p145 0), (11, pt p154 0), (12, vi t), (170, vw h), (172, vw e), (175, vw e), (179, vw e), (184, vw e), (185, pt p154 5)] [0, 1, 2, 3, 5, 6, 9, 10, 14, 15, 16] hS377 ?_
             refine GP.s 17 (fun w_ H_ => H_.ld (o := 5) (ty := 22) (v := vw f) 7 rfl (by kernel_rfl) rfl) [(2, pt p3 0), (3, pt p9 0), (4, pt p13 0), (7, .slice B_ (b.length + 1 + padZ b.length + 8) C_), (9, vi (64 * j)), (10, pt p145 0), (11, pt p154 0), (12, vi t), (170, vw h), (172, vw e), (175, vw e), (179, vw e), (184, vw e), (186, vw f)] hS377 ?_
             refine GP.r [18, 19] [(2, pt p3 0), (3, pt p9 0), (4, pt p13 0), (7, .slice B_ (b.length + 1 + padZ b.length + 8) C_), (9, vi (64 * j)), (10, pt p145 0), (11, pt p154 0), (12, vi t), (170, vw h), (172, vw e), (175, vw e), (179, vw e), (187, lw (Go.bits .and .u32 (e : Int) (f : Int))), (188, pt p154 4)] [0, 1, 2, 3, 5, 6, 9, 10, 14, 15, 16, 17, 18, 19] hS377 ?_
             have e378 : (Go.bits .and .u32 (e : Int) (f : Int)) = (((e &&& f) : Nat) : Int) := w_and g4 g5
             refine GP.eq (M' := [(2, pt p3 0), (3, pt p9 0), (4, pt p13 0), (7, .slice B_ (b.length + 1 + padZ b.length + 8) C_), (9, vi (64 * j)), (10, pt p145 0), (11, pt p154 0), (12, vi t), (170, vw h), (172, vw e), (175, vw e), (179, vw e), (187, vw (e &&& f)), (188, pt p154 4)]) (by rw [e378]) ?_
             clear e378
             refine GP.s 20 (fun w_ H_ => H_.ld (o := 4) (ty := 22) (v := vw e) 7 rfl (by kernel_rfl) rfl) [(2, pt p3 0), (3, pt p9 0), (4, pt p13 0), (7, .slice B_ (b.length + 1 + padZ b.length + 8) C_), (9, vi (64 * j)), (10, pt p145 0), (11, pt p154 0), (12, vi t), (170, vw h), (172, vw e), (175, vw e), (179, vw e), (187, vw (e &&& f)), (189, vw e)] hS377 ?_
             refine GP.r [21, 22] [(2, pt p3 0), (3, pt p9 0), (4, pt p13 0), (7, .slice B_ (b.length + 1 + padZ b.length + 8) C_), (9, vi (64 * j)), (10, pt p145 0), (11, pt p154 0), (12, vi t), (170, vw h), (172, vw e), (175, vw e), (179, vw e), (187, vw (e &&& f)), (190, lw (Go.bits .xor .u32 4294967295 (e : Int))), (191, pt p154 6)] [0, 1, 2, 3, 5, 6, 9, 10, 14, 15, 16, 17, 18, 19, 20, 21, 22] hS377 ?_
             have e379 : (Go.bits .xor .u32 4294967295 (e : Int)) = (((4294967295 ^^^ e) : Nat) : Int) := w_xor (by decide) g4
             refine GP.eq (M' := [(2, pt p3 0), (3, pt p9 0), (4, pt p13 0), (7, .slice B_ (b.length + 1 + padZ b.length + 8) C_), (9, vi (64 * j)), (10, pt p145 0), (11, pt p154 0), (12, vi t), (170, vw h), (172, vw e), (175, vw e), (179, vw e), (187, vw (e &&& f)), (190, vw (4294967295 ^^^ e)), (191, pt p154 6)]) (by rw [e379]) ?_
             clear e379
             refine GP.s 23 (fun w_ H_ => H_.ld (o := 6) (ty := 22) (v := vw g) 7 rfl (by kernel_rfl) rfl) [(2, pt p3 0), (3, pt p9 0), (4, pt p13 0), (7, .slice B_ (b.length + 1 + padZ b.length + 8) C_), (9, vi (64 * j)), (10, pt p145 0), (11, pt p154 0), (12, vi t), (170, vw h), (172, vw e), (175, vw e), (179, vw e), (187, vw (e &&& f)), (190, vw (4294967295 ^^^ e)), (192, vw g)] hS377 ?_
             refine GP.r [24, 25, 27] [(2, pt p3 0), (3, pt p9 0), (4, pt p13 0), (7, .slice B_ (b.length + 1 + padZ b.length + 8) C_), (9, vi (64 * j)), (10, pt p145 0), (11, pt p154 0), (12, vi t), (170, vw h), (172, vw e), (175, vw e), (179, vw e), (194, lw (Go.bits .xor .u32 (((e &&& f) : Nat) : Int) (Go.bits .and .u32 (((4294967295 ^^^ e) : Nat) : Int) (g : Int)))), (196, vi t)] [0, 1, 2, 3, 5, 6, 9, 10, 14, 15, 16, 17, 18, 19, 20, 21, 22, 23, 24, 25, 27] hS377 ?_
             have e380 : (Go.bits .and .u32 (((4294967295 ^^^ e) : Nat) : Int) (g : Int)) = ((((4294967295 ^^^ e) &&& g) : Nat) : Int) := w_and (xor_lt32 (by decide) g4) g6
             have e381 : (Go.bits .xor .u32 (((e &&& f) : Nat) : Int) ((((4294967295 ^^^ e) &&& g) : Nat) : Int)) = (((chf e f g) : Nat) : Int) := w_xor (and_lt32 g4) (and_lt32 (xor_lt32 (by decide) g4))
             refine GP.eq (M' := [(2, pt p3 0), (3, pt p9 0), (4, pt p13 0), (7, .slice B_ (b.length + 1 + padZ b.length + 8) C_), (9, vi (64 * j)), (10, pt p145 0), (11, pt p154 0), (12, vi t), (170, vw h), (172, vw e), (175, vw e), (179, vw e), (194, vw (chf e f g)), (196, vi t)]) (by rw [e380, e381]) ?_
             clear e380 e381
             refine GP.s 28 (fun w_ H_ => run_idxArr (P := Try.prog) (k := .i64) (t := 119) (len := 64) (sz := 1) (b := p9) (o := 0) (j := t) (by kernel_rfl) rfl (by omega)) [(2, pt p3 0), (3, pt p9 0), (4, pt p13 0), (7, .slice B_ (b.length + 1 + padZ b.length + 8) C_), (9, vi (64 * j)), (10, pt p145 0), (11, pt p154 0), (12, vi t), (170, vw h), (172, vw e), (175, vw e), (179, vw e), (194, vw (chf e f g)), (197, pt p9 (0 + t * 1))] hS377 ?_
             refine GP.s 29 (fun w_ H_ => H_.ld (o := (0 + t * 1)) (ty := 22) (v := vw (KT.getD t 0)) 1 rfl (by kernel_rfl) (by rw [show (0 + t * 1) = t by omega]; exact u32s_at (getD_at (by rw [KT_length]; omega)))) [(2, pt p3 0), (3, pt p9 0), (4, pt p13 0), (7, .slice B_ (b.length + 1 + padZ b.length + 8) C_), (9, vi (64 * j)), (10, pt p145 0), (11, pt p154 0), (12, vi t), (170, vw h), (172, vw e), (175, vw e), (179, vw e), (194, vw (chf e f g)), (198, vw (KT.getD t 0))] hS377 ?_
             refine GP.r [31] [(2, pt p3 0), (3, pt p9 0), (4, pt p13 0), (7, .slice B_ (b.length + 1 + padZ b.length + 8) C_), (9, vi (64 * j)), (10, pt p145 0), (11, pt p154 0), (12, vi t), (170, vw h), (172, vw e), (175, vw e), (179, vw e), (194, vw (chf e f g)), (198, vw (KT.getD t 0)), (200, vi t)] [0, 1, 2, 3, 5, 6, 9, 10, 14, 15, 16, 17, 18, 19, 20, 21, 22, 23, 24, 25, 27, 28, 29, 31] hS377 ?_
             refine GP.s 32 (fun w_ H_ => run_idxArr (P := Try.prog) (k := .i64) (t := 119) (len := 64) (sz := 1) (b := p145) (o := 0) (j := t) (by kernel_rfl) rfl (by omega)) [(2, pt p3 0), (3, pt p9 0), (4, pt p13 0), (7, .slice B_ (b.length + 1 + padZ b.length + 8) C_), (9, vi (64 * j)), (10, pt p145 0), (11, pt p154 0), (12, vi t), (170, vw h), (172, vw e), (175, vw e), (179, vw e), (194, vw (chf e f g)), (198, vw (KT.getD t 0)), (201, pt p145 (0 + t * 1))] hS377 ?_
             refine GP.s 33 (fun w_ H_ => H_.ld (o := (0 + t * 1)) (ty := 22) (v := vw ((wsN p (t + 1)).getD t 0)) 6 rfl (by kernel_rfl) (by rw [show (0 + t * 1) = t by omega]; exact u32s_at (wsP_at (by omega) (by omega)))) [(2, pt p3 0), (3, pt p9 0), (4, pt p13 0), (7, .slice B_ (b.length + 1 + padZ b.length + 8) C_), (9, vi (64 * j)), (10, pt p145 0), (11, pt p154 0), (12, vi t), (170, vw h), (172, vw e), (175, vw e), (179, vw e), (194, vw (chf e f g)), (198, vw (KT.getD t 0)), (202, vw ((wsN p (t + 1)).getD t 0))] hS377 ?_
             refine GP.call 4 (TurnR6_calls e g4 w376) (by kernel_rfl) (by kernel_rfl) (fun e_ w382 hR => ?_)
             obtain ⟨rfl, H384⟩ := hR
             have H383 : Hp w [] [.blk p3 (by8 (bsP (outB (blocks (padM b) ((padM b).length / 64))) 32 0)) 50, .blk p9 (u32s KT) 119, .blk p13 (c8 h0 h1 h2 h3 h4 h5 h6 h7) 120, .row A27 64 c28 31 1 (dg PR), .row B_ (b.length + 1 + padZ b.length + 8) C_ 5 1 (by8 (padM b)), .row (some ⟨p53, 0, none⟩) 1 1 5 1 (by8 ([128] : List UInt8)), .blk p145 (u32s (wsP p (t + 1))) 119, .blk p154 (c8 a b_ c_ d e f g h) 120] w382 := H375.callNil H384
             have hS385 : Hp w [] [.blk p3 (by8 (bsP (outB (blocks (padM b) ((padM b).length / 64))) 32 0)) 50, .blk p9 (u32s KT) 119, .blk p13 (c8 h0 h1 h2 h3 h4 h5 h6 h7) 120, .row A27 64 c28 31 1 (dg PR), .row B_ (b.length + 1 + padZ b.length + 8) C_ 5 1 (by8 (padM b)), .row (some ⟨p53, 0, none⟩) 1 1 5 1 (by8 ([128] : List UInt8)), .blk p145 (u32s (wsP p (t + 1))) 119, .blk p154 (c8 a b_ c_ d e f g h) 120] w382 := H383.sub (List.Sublist.cons_cons _ (List.Sublist.cons_cons _ (List.Sublist.cons_cons _ (List.Sublist.cons_cons _ (List.Sublist.cons_cons _ (List.Sublist.cons_cons _ (List.Sublist.cons_cons _ (List.Sublist.cons_cons _ (List.Sublist.slnil)))))))))
             refine ⟨_, rfl, hS385, [2, 3, 4, 7, 9, 10, 11, 12, 170, 173, 175, 179, 194, 198, 202], [(2, pt p3 0), (3, pt p9 0), (4, pt p13 0), (7, .slice B_ (b.length + 1 + padZ b.length + 8) C_), (9, vi (64 * j)), (10, pt p145 0), (11, pt p154 0), (12, vi t), (170, vw h), (173, vw (rt e 6)), (175, vw e), (179, vw e), (194, vw (chf e f g)), (198, vw (KT.getD t 0)), (202, vw ((wsN p (t + 1)).getD t 0))], by kernel_rfl, ?_⟩
             refine GP.call 7 (TurnR11_calls e g4 w382) (by kernel_rfl) (by kernel_rfl) (fun e_ w386 hR => ?_)
             obtain ⟨rfl, H388⟩ := hR
             have H387 : Hp w [] [.blk p3 (by8 (bsP (outB (blocks (padM b) ((padM b).length / 64))) 32 0)) 50, .blk p9 (u32s KT) 119, .blk p13 (c8 h0 h1 h2 h3 h4 h5 h6 h7) 120, .row A27 64 c28 31 1 (dg PR), .row B_ (b.length + 1 + padZ b.length + 8) C_ 5 1 (by8 (padM b)), .row (some ⟨p53, 0, none⟩) 1 1 5 1 (by8 ([128] : List UInt8)), .blk p145 (u32s (wsP p (t + 1))) 119, .blk p154 (c8 a b_ c_ d e f g h) 120] w386 := H383.callNil H388
             have hS389 : Hp w [] [.blk p3 (by8 (bsP (outB (blocks (padM b) ((padM b).length / 64))) 32 0)) 50, .blk p9 (u32s KT) 119, .blk p13 (c8 h0 h1 h2 h3 h4 h5 h6 h7) 120, .row A27 64 c28 31 1 (dg PR), .row B_ (b.length + 1 + padZ b.length + 8) C_ 5 1 (by8 (padM b)), .row (some ⟨p53, 0, none⟩) 1 1 5 1 (by8 ([128] : List UInt8)), .blk p145 (u32s (wsP p (t + 1))) 119, .blk p154 (c8 a b_ c_ d e f g h) 120] w386 := H387.sub (List.Sublist.cons_cons _ (List.Sublist.cons_cons _ (List.Sublist.cons_cons _ (List.Sublist.cons_cons _ (List.Sublist.cons_cons _ (List.Sublist.cons_cons _ (List.Sublist.cons_cons _ (List.Sublist.cons_cons _ (List.Sublist.slnil)))))))))
             refine ⟨_, rfl, hS389, [2, 3, 4, 7, 9, 10, 11, 12, 170, 173, 176, 179, 194, 198, 202], [(2, pt p3 0), (3, pt p9 0), (4, pt p13 0), (7, .slice B_ (b.length + 1 + padZ b.length + 8) C_), (9, vi (64 * j)), (10, pt p145 0), (11, pt p154 0), (12, vi t), (170, vw h), (173, vw (rt e 6)), (176, vw (rt e 11)), (179, vw e), (194, vw (chf e f g)), (198, vw (KT.getD t 0)), (202, vw ((wsN p (t + 1)).getD t 0))], by kernel_rfl, ?_⟩
             refine GP.r [8] [(2, pt p3 0), (3, pt p9 0), (4, pt p13 0), (7, .slice B_ (b.length + 1 + padZ b.length + 8) C_), (9, vi (64 * j)), (10, pt p145 0), (11, pt p154 0), (12, vi t), (170, vw h), (177, lw (Go.bits .xor .u32 (((rt e 6) : Nat) : Int) (((rt e 11) : Nat) : Int))), (179, vw e), (194, vw (chf e f g)), (198, vw (KT.getD t 0)), (202, vw ((wsN p (t + 1)).getD t 0))] [0, 1, 2, 3, 5, 6, 9, 10, 14, 15, 16, 17, 18, 19, 20, 21, 22, 23, 24, 25, 27, 28, 29, 31, 32, 33, 4, 7, 8] hS389 ?_
             have e390 : (Go.bits .xor .u32 (((rt e 6) : Nat) : Int) (((rt e 11) : Nat) : Int)) = ((((rt e 6) ^^^ (rt e 11)) : Nat) : Int) := w_xor (rt_lt g4) (rt_lt g4)
             refine GP.eq (M' := [(2, pt p3 0), (3, pt p9 0), (4, pt p13 0), (7, .slice B_ (b.length + 1 + padZ b.length + 8) C_), (9, vi (64 * j)), (10, pt p145 0), (11, pt p154 0), (12, vi t), (170, vw h), (177, vw ((rt e 6) ^^^ (rt e 11))), (179, vw e), (194, vw (chf e f g)), (198, vw (KT.getD t 0)), (202, vw ((wsN p (t + 1)).getD t 0))]) (by rw [e390]) ?_
             clear e390
             refine GP.call 11 (TurnR25_calls e g4 w386) (by kernel_rfl) (by kernel_rfl) (fun e_ w391 hR => ?_)
             obtain ⟨rfl, H393⟩ := hR
             have H392 : Hp w [] [.blk p3 (by8 (bsP (outB (blocks (padM b) ((padM b).length / 64))) 32 0)) 50, .blk p9 (u32s KT) 119, .blk p13 (c8 h0 h1 h2 h3 h4 h5 h6 h7) 120, .row A27 64 c28 31 1 (dg PR), .row B_ (b.length + 1 + padZ b.length + 8) C_ 5 1 (by8 (padM b)), .row (some ⟨p53, 0, none⟩) 1 1 5 1 (by8 ([128] : List UInt8)), .blk p145 (u32s (wsP p (t + 1))) 119, .blk p154 (c8 a b_ c_ d e f g h) 120] w391 := H387.callNil H393
             have hS394 : Hp w [] [.blk p3 (by8 (bsP (outB (blocks (padM b) ((padM b).length / 64))) 32 0)) 50, .blk p9 (u32s KT) 119, .blk p13 (c8 h0 h1 h2 h3 h4 h5 h6 h7) 120, .row A27 64 c28 31 1 (dg PR), .row B_ (b.length + 1 + padZ b.length + 8) C_ 5 1 (by8 (padM b)), .row (some ⟨p53, 0, none⟩) 1 1 5 1 (by8 ([128] : List UInt8)), .blk p145 (u32s (wsP p (t + 1))) 119, .blk p154 (c8 a b_ c_ d e f g h) 120] w391 := H392.sub (List.Sublist.cons_cons _ (List.Sublist.cons_cons _ (List.Sublist.cons_cons _ (List.Sublist.cons_cons _ (List.Sublist.cons_cons _ (List.Sublist.cons_cons _ (List.Sublist.cons_cons _ (List.Sublist.cons_cons _ (List.Sublist.slnil)))))))))
             refine ⟨_, rfl, hS394, [2, 3, 4, 7, 9, 10, 11, 12, 170, 177, 180, 194, 198, 202], [(2, pt p3 0), (3, pt p9 0), (4, pt p13 0), (7, .slice B_ (b.length + 1 + padZ b.length + 8) C_), (9, vi (64 * j)), (10, pt p145 0), (11, pt p154 0), (12, vi t), (170, vw h), (177, vw ((rt e 6) ^^^ (rt e 11))), (180, vw (rt e 25)), (194, vw (chf e f g)), (198, vw (KT.getD t 0)), (202, vw ((wsN p (t + 1)).getD t 0))], by kernel_rfl, ?_⟩
             refine GP.r [12, 13, 26, 30, 34, 35] [(2, pt p3 0), (3, pt p9 0), (4, pt p13 0), (7, .slice B_ (b.length + 1 + padZ b.length + 8) C_), (9, vi (64 * j)), (10, pt p145 0), (11, pt p154 0), (12, vi t), (13, lw (IntKind.u32.wrap ((IntKind.u32.wrap ((IntKind.u32.wrap ((IntKind.u32.wrap ((h : Int) + (Go.bits .xor .u32 ((((rt e 6) ^^^ (rt e 11)) : Nat) : Int) (((rt e 25) : Nat) : Int)))) + (((chf e f g) : Nat) : Int))) + (((KT.getD t 0) : Nat) : Int))) + ((((wsN p (t + 1)).getD t 0) : Nat) : Int))))] [0, 1, 2, 3, 5, 6, 9, 10, 14, 15, 16, 17, 18, 19, 20, 21, 22, 23, 24, 25, 27, 28, 29, 31, 32, 33, 4, 7, 8, 11, 12, 13, 26, 30, 34, 35] hS394 ?_
             have e395 : (Go.bits .xor .u32 ((((rt e 6) ^^^ (rt e 11)) : Nat) : Int) (((rt e 25) : Nat) : Int)) = (((bsg1 e) : Nat) : Int) := w_xor (xor_lt32 (rt_lt g4) (rt_lt g4)) (rt_lt g4)
             have e396 : (IntKind.u32.wrap ((h : Int) + (((bsg1 e) : Nat) : Int))) = (((h + (bsg1 e)) % W32 : Nat) : Int) := w_add _ _
             have e397 : (IntKind.u32.wrap ((((h + (bsg1 e)) % W32 : Nat) : Int) + (((chf e f g) : Nat) : Int))) = (((h + (bsg1 e) + (chf e f g)) % W32 : Nat) : Int) := w_addm _ _
             have e398 : (IntKind.u32.wrap ((((h + (bsg1 e) + (chf e f g)) % W32 : Nat) : Int) + (((KT.getD t 0) : Nat) : Int))) = (((h + (bsg1 e) + (chf e f g) + (KT.getD t 0)) % W32 : Nat) : Int) := w_addm _ _
             have e399 : (IntKind.u32.wrap ((((h + (bsg1 e) + (chf e f g) + (KT.getD t 0)) % W32 : Nat) : Int) + ((((wsN p (t + 1)).getD t 0) : Nat) : Int))) = (((h + (bsg1 e) + (chf e f g) + (KT.getD t 0) + ((wsN p (t + 1)).getD t 0)) % W32 : Nat) : Int) := w_addm _ _
             refine GP.eq (M' := [(2, pt p3 0), (3, pt p9 0), (4, pt p13 0), (7, .slice B_ (b.length + 1 + padZ b.length + 8) C_), (9, vi (64 * j)), (10, pt p145 0), (11, pt p154 0), (12, vi t), (13, vw ((h + (bsg1 e) + (chf e f g) + (KT.getD t 0) + ((wsN p (t + 1)).getD t 0)) % W32))]) (by rw [e395, e396, e397, e398, e399]) ?_
             clear e395 e396 e397 e398 e399
             refine GP.k (by kernel_rfl) hK374 (fun _ _ h => h) ?_
             refine G.seqK fun K400 hK401 => ?_
             refine G.heldP (Hp w [] [.blk p3 (by8 (bsP (outB (blocks (padM b) ((padM b).length / 64))) 32 0)) 50, .blk p9 (u32s KT) 119, .blk p13 (c8 h0 h1 h2 h3 h4 h5 h6 h7) 120, .row A27 64 c28 31 1 (dg PR), .row B_ (b.length + 1 + padZ b.length + 8) C_ 5 1 (by8 (padM b)), .row (some ⟨p53, 0, none⟩) 1 1 5 1 (by8 ([128] : List UInt8)), .blk p145 (u32s (wsP p (t + 1))) 119, .blk p154 (c8 a b_ c_ d e f g h) 120]) (by kernel_rfl) (by kernel_rfl) (fun c_ a_ d_ v_ w_ h_ => hPan c_ a_ d_ v_ w_ h_) ?_
             have H402 := H392.drew
             generalize ({ w391 with drawn := w391.drawn + 1 } : World) = w403 at H402 ⊢
             have hS404 : Hp w [] [.blk p3 (by8 (bsP (outB (blocks (padM b) ((padM b).length / 64))) 32 0)) 50, .blk p9 (u32s KT) 119, .blk p13 (c8 h0 h1 h2 h3 h4 h5 h6 h7) 120, .row A27 64 c28 31 1 (dg PR), .row B_ (b.length + 1 + padZ b.length + 8) C_ 5 1 (by8 (padM b)), .row (some ⟨p53, 0, none⟩) 1 1 5 1 (by8 ([128] : List UInt8)), .blk p145 (u32s (wsP p (t + 1))) 119, .blk p154 (c8 a b_ c_ d e f g h) 120] w403 := H402.sub (List.Sublist.cons_cons _ (List.Sublist.cons_cons _ (List.Sublist.cons_cons _ (List.Sublist.cons_cons _ (List.Sublist.cons_cons _ (List.Sublist.cons_cons _ (List.Sublist.cons_cons _ (List.Sublist.cons_cons _ (List.Sublist.slnil)))))))))
             refine GP.r [0] [(2, pt p3 0), (3, pt p9 0), (4, pt p13 0), (7, .slice B_ (b.length + 1 + padZ b.length + 8) C_), (9, vi (64 * j)), (10, pt p145 0), (11, pt p154 0), (12, vi t), (13, vw ((h + (bsg1 e) + (chf e f g) + (KT.getD t 0) + ((wsN p (t + 1)).getD t 0)) % W32)), (204, pt p154 0)] [0] hS404 ?_
             refine GP.s 1 (fun w_ H_ => H_.ld (o := 0) (ty := 22) (v := vw a) 7 rfl (by kernel_rfl) rfl) [(2, pt p3 0), (3, pt p9 0), (4, pt p13 0), (7, .slice B_ (b.length + 1 + padZ b.length + 8) C_), (9, vi (64 * j)), (10, pt p145 0), (11, pt p154 0), (12, vi t), (13, vw ((h + (bsg1 e) + (chf e f g) + (KT.getD t 0) + ((wsN p (t + 1)).getD t 0)) % W32)), (205, vw a)] hS404 ?_
             refine GP.r [3] [(2, pt p3 0), (3, pt p9 0), (4, pt p13 0), (7, .slice B_ (b.length + 1 + padZ b.length + 8) C_), (9, vi (64 * j)), (10, pt p145 0), (11, pt p154 0), (12, vi t), (13, vw ((h + (bsg1 e) + (chf e f g) + (KT.getD t 0) + ((wsN p (t + 1)).getD t 0)) % W32)), (205, vw a), (207, pt p154 0)] [0, 1, 3] hS404 ?_
             refine GP.s 4 (fun w_ H_ => H_.ld (o := 0) (ty := 22) (v := vw a) 7 rfl (by kernel_rfl) rfl) [(2, pt p3 0), (3, pt p9 0), (4, pt p13 0), (7, .slice B_ (b.length + 1 + padZ b.length + 8) C_), (9, vi (64 * j)), (10, pt p145 0), (11, pt p154 0), (12, vi t), (13, vw ((h + (bsg1 e) + (chf e f g) + (KT.getD t 0) + ((wsN p (t + 1)).getD t 0)) % W32)), (205, vw a), (208, vw a)] hS404 ?_
             refine GP.r [7] [(2, pt p3 0), (3, pt p9 0), (4, pt p13 0), (7, .slice B_ (b.length + 1 + padZ b.length + 8) C_), (9, vi (64 * j)), (10, pt p145 0), (11, pt p154 0), (12, vi t), (13, vw ((h + (bsg1 e) + (chf e f g) + (KT.getD t 0) + ((wsN p (t + 1)).getD t 0)) % W32)), (205, vw a), (208, vw a), (211, pt p154 0)] [0, 1, 3, 4, 7] hS404 ?_
             refine GP.s 8 (fun w_ H_ => H_.ld (o := 0) (ty := 22) (v := vw a) 7 rfl (by kernel_rfl) rfl) [(2, pt p3 0), (3, pt p9 0), (4, pt p13 0), (7, .slice B_ (b.length + 1 + padZ b.length + 8) C_), (9, vi (64 * j)), (10, pt p145 0), (11, pt p154 0), (12, vi t), (13, vw ((h + (bsg1 e) + (chf e f g) + (KT.getD t 0) + ((wsN p (t + 1)).getD t 0)) % W32)), (205, vw a), (208, vw a), (212, vw a)] hS404 ?_
             refine GP.r [11] [(2, pt p3 0), (3, pt p9 0), (4, pt p13 0), (7, .slice B_ (b.length + 1 + padZ b.length + 8) C_), (9, vi (64 * j)), (10, pt p145 0), (11, pt p154 0), (12, vi t), (13, vw ((h + (bsg1 e) + (chf e f g) + (KT.getD t 0) + ((wsN p (t + 1)).getD t 0)) % W32)), (205, vw a), (208, vw a), (212, vw a), (215, pt p154 0)] [0, 1, 3, 4, 7, 8, 11] hS404 ?_
             refine GP.s 12 (fun w_ H_ => H_.ld (o := 0) (ty := 22) (v := vw a) 7 rfl (by kernel_rfl) rfl) [(2, pt p3 0), (3, pt p9 0), (4, pt p13 0), (7, .slice B_ (b.length + 1 + padZ b.length + 8) C_), (9, vi (64 * j)), (10, pt p145 0), (11, pt p154 0), (12, vi t), (13, vw ((h + (bsg1 e) + (chf e f g) + (KT.getD t 0) + ((wsN p (t + 1)).getD t 0)) % W32)), (205, vw a), (208, vw a), (212, vw a), (216, vw a)] hS404 ?_
             refine GP.r [13] [(2, pt p3 0), (3, pt p9 0), (4, pt p13 0), (7, .slice B_ (b.length + 1 + padZ b.length + 8) C_), (9, vi (64 * j)), (10, pt p145 0), (11, pt p154 0), (12, vi t), (13, vw ((h + (bsg1 e) + (chf e f g) + (KT.getD t 0) + ((wsN p (t + 1)).getD t 0)) % W32)), (205, vw a), (208, vw a), (212, vw a), (216, vw a), (217, pt p154 1)] [0, 1, 3, 4, 7, 8, 11, 12, 13] hS404 ?_
             refine GP.s 14 (fun w_ H_ => H_.ld (o := 1) (ty := 22) (v := vw b_) 7 rfl (by kernel_rfl) rfl) [(2, pt p3 0), (3, pt p9 0), (4, pt p13 0), (7, .slice B_ (b.length + 1 + padZ b.length + 8) C_), (9, vi (64 * j)), (10, pt p145 0), (11, pt p154 0), (12, vi t), (13, vw ((h + (bsg1 e) + (chf e f g) + (KT.getD t 0) + ((wsN p (t + 1)).getD t 0)) % W32)), (205, vw a), (208, vw a), (212, vw a), (216, vw a), (218, vw b_)] hS404 ?_
             refine GP.r [15, 16] [(2, pt p3 0), (3, pt p9 0), (4, pt p13 0), (7, .slice B_ (b.length + 1 + padZ b.length + 8) C_), (9, vi (64 * j)), (10, pt p145 0), (11, pt p154 0), (12, vi t), (13, vw ((h + (bsg1 e) + (chf e f g) + (KT.getD t 0) + ((wsN p (t + 1)).getD t 0)) % W32)), (205, vw a), (208, vw a), (212, vw a), (219, lw (Go.bits .and .u32 (a : Int) (b_ : Int))), (220, pt p154 0)] [0, 1, 3, 4, 7, 8, 11, 12, 13, 14, 15, 16] hS404 ?_
             have e405 : (Go.bits .and .u32 (a : Int) (b_ : Int)) = (((a &&& b_) : Nat) : Int) := w_and g0 g1
             refine GP.eq (M' := [(2, pt p3 0), (3, pt p9 0), (4, pt p13 0), (7, .slice B_ (b.length + 1 + padZ b.length + 8) C_), (9, vi (64 * j)), (10, pt p145 0), (11, pt p154 0), (12, vi t), (13, vw ((h + (bsg1 e) + (chf e f g) + (KT.getD t 0) + ((wsN p (t + 1)).getD t 0)) % W32)), (205, vw a), (208, vw a), (212, vw a), (219, vw (a &&& b_)), (220, pt p154 0)]) (by rw [e405]) ?_
             clear e405
             refine GP.s 17 (fun w_ H_ => H_.ld (o := 0) (ty := 22) (v := vw a) 7 rfl (by kernel_rfl) rfl) [(2, pt p3 0), (3, pt p9 0), (4, pt p13 0), (7, .slice B_ (b.length + 1 + padZ b.length + 8) C_), (9, vi (64 * j)), (10, pt p145 0), (11, pt p154 0), (12, vi t), (13, vw ((h + (bsg1 e) + (chf e f g) + (KT.getD t 0) + ((wsN p (t + 1)).getD t 0)) % W32)), (205, vw a), (208, vw a), (212, vw a), (219, vw (a &&& b_)), (221, vw a)] hS404 ?_
             refine GP.r [18] [(2, pt p3 0), (3, pt p9 0), (4, pt p13 0), (7, .slice B_ (b.length + 1 + padZ b.length + 8) C_), (9, vi (64 * j)), (10, pt p145 0), (11, pt p154 0), (12, vi t), (13, vw ((h + (bsg1 e) + (chf e f g) + (KT.getD t 0) + ((wsN p (t + 1)).getD t 0)) % W32)), (205, vw a), (208, vw a), (212, vw a), (219, vw (a &&& b_)), (221, vw a), (222, pt p154 2)] [0, 1, 3, 4, 7, 8, 11, 12, 13, 14, 15, 16, 17, 18] hS404 ?_
             refine GP.s 19 (fun w_ H_ => H_.ld (o := 2) (ty := 22) (v := vw c_) 7 rfl (by kernel_rfl) rfl) [(2, pt p3 0), (3, pt p9 0), (4, pt p13 0), (7, .slice B_ (b.length + 1 + padZ b.length + 8) C_), (9, vi (64 * j)), (10, pt p145 0), (11, pt p154 0), (12, vi t), (13, vw ((h + (bsg1 e) + (chf e f g) + (KT.getD t 0) + ((wsN p (t + 1)).getD t 0)) % W32)), (205, vw a), (208, vw a), (212, vw a), (219, vw (a &&& b_)), (221, vw a), (223, vw c_)] hS404 ?_
             refine GP.r [20, 21, 22] [(2, pt p3 0), (3, pt p9 0), (4, pt p13 0), (7, .slice B_ (b.length + 1 + padZ b.length + 8) C_), (9, vi (64 * j)), (10, pt p145 0), (11, pt p154 0), (12, vi t), (13, vw ((h + (bsg1 e) + (chf e f g) + (KT.getD t 0) + ((wsN p (t + 1)).getD t 0)) % W32)), (205, vw a), (208, vw a), (212, vw a), (225, lw (Go.bits .xor .u32 (((a &&& b_) : Nat) : Int) (Go.bits .and .u32 (a : Int) (c_ : Int)))), (226, pt p154 1)] [0, 1, 3, 4, 7, 8, 11, 12, 13, 14, 15, 16, 17, 18, 19, 20, 21, 22] hS404 ?_
             have e406 : (Go.bits .and .u32 (a : Int) (c_ : Int)) = (((a &&& c_) : Nat) : Int) := w_and g0 g2
             have e407 : (Go.bits .xor .u32 (((a &&& b_) : Nat) : Int) (((a &&& c_) : Nat) : Int)) = ((((a &&& b_) ^^^ (a &&& c_)) : Nat) : Int) := w_xor (and_lt32 g0) (and_lt32 g0)
             refine GP.eq (M' := [(2, pt p3 0), (3, pt p9 0), (4, pt p13 0), (7, .slice B_ (b.length + 1 + padZ b.length + 8) C_), (9, vi (64 * j)), (10, pt p145 0), (11, pt p154 0), (12, vi t), (13, vw ((h + (bsg1 e) + (chf e f g) + (KT.getD t 0) + ((wsN p (t + 1)).getD t 0)) % W32)), (205, vw a), (208, vw a), (212, vw a), (225, vw ((a &&& b_) ^^^ (a &&& c_))), (226, pt p154 1)]) (by rw [e406, e407]) ?_
             clear e406 e407
             refine GP.s 23 (fun w_ H_ => H_.ld (o := 1) (ty := 22) (v := vw b_) 7 rfl (by kernel_rfl) rfl) [(2, pt p3 0), (3, pt p9 0), (4, pt p13 0), (7, .slice B_ (b.length + 1 + padZ b.length + 8) C_), (9, vi (64 * j)), (10, pt p145 0), (11, pt p154 0), (12, vi t), (13, vw ((h + (bsg1 e) + (chf e f g) + (KT.getD t 0) + ((wsN p (t + 1)).getD t 0)) % W32)), (205, vw a), (208, vw a), (212, vw a), (225, vw ((a &&& b_) ^^^ (a &&& c_))), (227, vw b_)] hS404 ?_
             refine GP.r [24] [(2, pt p3 0), (3, pt p9 0), (4, pt p13 0), (7, .slice B_ (b.length + 1 + padZ b.length + 8) C_), (9, vi (64 * j)), (10, pt p145 0), (11, pt p154 0), (12, vi t), (13, vw ((h + (bsg1 e) + (chf e f g) + (KT.getD t 0) + ((wsN p (t + 1)).getD t 0)) % W32)), (205, vw a), (208, vw a), (212, vw a), (225, vw ((a &&& b_) ^^^ (a &&& c_))), (227, vw b_), (228, pt p154 2)] [0, 1, 3, 4, 7, 8, 11, 12, 13, 14, 15, 16, 17, 18, 19, 20, 21, 22, 23, 24] hS404 ?_
             refine GP.s 25 (fun w_ H_ => H_.ld (o := 2) (ty := 22) (v := vw c_) 7 rfl (by kernel_rfl) rfl) [(2, pt p3 0), (3, pt p9 0), (4, pt p13 0), (7, .slice B_ (b.length + 1 + padZ b.length + 8) C_), (9, vi (64 * j)), (10, pt p145 0), (11, pt p154 0), (12, vi t), (13, vw ((h + (bsg1 e) + (chf e f g) + (KT.getD t 0) + ((wsN p (t + 1)).getD t 0)) % W32)), (205, vw a), (208, vw a), (212, vw a), (225, vw ((a &&& b_) ^^^ (a &&& c_))), (227, vw b_), (229, vw c_)] hS404 ?_
             refine GP.r [26, 27] [(2, pt p3 0), (3, pt p9 0), (4, pt p13 0), (7, .slice B_ (b.length + 1 + padZ b.length + 8) C_), (9, vi (64 * j)), (10, pt p145 0), (11, pt p154 0), (12, vi t), (13, vw ((h + (bsg1 e) + (chf e f g) + (KT.getD t 0) + ((wsN p (t + 1)).getD t 0)) % W32)), (205, vw a), (208, vw a), (212, vw a), (231, lw (Go.bits .xor .u32 ((((a &&& b_) ^^^ (a &&& c_)) : Nat) : Int) (Go.bits .and .u32 (b_ : Int) (c_ : Int))))] [0, 1, 3, 4, 7, 8, 11, 12, 13, 14, 15, 16, 17, 18, 19, 20, 21, 22, 23, 24, 25, 26, 27] hS404 ?_
             have e408 : (Go.bits .and .u32 (b_ : Int) (c_ : Int)) = (((b_ &&& c_) : Nat) : Int) := w_and g1 g2
             have e409 : (Go.bits .xor .u32 ((((a &&& b_) ^^^ (a &&& c_)) : Nat) : Int) (((b_ &&& c_) : Nat) : Int)) = (((majf a b_ c_) : Nat) : Int) := w_xor (xor_lt32 (and_lt32 g0) (and_lt32 g0)) (and_lt32 g1)
             refine GP.eq (M' := [(2, pt p3 0), (3, pt p9 0), (4, pt p13 0), (7, .slice B_ (b.length + 1 + padZ b.length + 8) C_), (9, vi (64 * j)), (10, pt p145 0), (11, pt p154 0), (12, vi t), (13, vw ((h + (bsg1 e) + (chf e f g) + (KT.getD t 0) + ((wsN p (t + 1)).getD t 0)) % W32)), (205, vw a), (208, vw a), (212, vw a), (231, vw (majf a b_ c_))]) (by rw [e408, e409]) ?_
             clear e408 e409
             refine GP.call 2 (TurnR2_calls a g0 w403) (by kernel_rfl) (by kernel_rfl) (fun e_ w410 hR => ?_)
             obtain ⟨rfl, H412⟩ := hR
             have H411 : Hp w [] [.blk p3 (by8 (bsP (outB (blocks (padM b) ((padM b).length / 64))) 32 0)) 50, .blk p9 (u32s KT) 119, .blk p13 (c8 h0 h1 h2 h3 h4 h5 h6 h7) 120, .row A27 64 c28 31 1 (dg PR), .row B_ (b.length + 1 + padZ b.length + 8) C_ 5 1 (by8 (padM b)), .row (some ⟨p53, 0, none⟩) 1 1 5 1 (by8 ([128] : List UInt8)), .blk p145 (u32s (wsP p (t + 1))) 119, .blk p154 (c8 a b_ c_ d e f g h) 120] w410 := H402.callNil H412
             have hS413 : Hp w [] [.blk p3 (by8 (bsP (outB (blocks (padM b) ((padM b).length / 64))) 32 0)) 50, .blk p9 (u32s KT) 119, .blk p13 (c8 h0 h1 h2 h3 h4 h5 h6 h7) 120, .row A27 64 c28 31 1 (dg PR), .row B_ (b.length + 1 + padZ b.length + 8) C_ 5 1 (by8 (padM b)), .row (some ⟨p53, 0, none⟩) 1 1 5 1 (by8 ([128] : List UInt8)), .blk p145 (u32s (wsP p (t + 1))) 119, .blk p154 (c8 a b_ c_ d e f g h) 120] w410 := H411.sub (List.Sublist.cons_cons _ (List.Sublist.cons_cons _ (List.Sublist.cons_cons _ (List.Sublist.cons_cons _ (List.Sublist.cons_cons _ (List.Sublist.cons_cons _ (List.Sublist.cons_cons _ (List.Sublist.cons_cons _ (List.Sublist.slnil)))))))))
             refine ⟨_, rfl, hS413, [2, 3, 4, 7, 9, 10, 11, 12, 13, 206, 208, 212, 231], [(2, pt p3 0), (3, pt p9 0), (4, pt p13 0), (7, .slice B_ (b.length + 1 + padZ b.length + 8) C_), (9, vi (64 * j)), (10, pt p145 0), (11, pt p154 0), (12, vi t), (13, vw ((h + (bsg1 e) + (chf e f g) + (KT.getD t 0) + ((wsN p (t + 1)).getD t 0)) % W32)), (206, vw (rt a 2)), (208, vw a), (212, vw a), (231, vw (majf a b_ c_))], by kernel_rfl, ?_⟩
             refine GP.call 5 (TurnR13_calls a g0 w410) (by kernel_rfl) (by kernel_rfl) (fun e_ w414 hR => ?_)
             obtain ⟨rfl, H416⟩ := hR
             have H415 : Hp w [] [.blk p3 (by8 (bsP (outB (blocks (padM b) ((padM b).length / 64))) 32 0)) 50, .blk p9 (u32s KT) 119, .blk p13 (c8 h0 h1 h2 h3 h4 h5 h6 h7) 120, .row A27 64 c28 31 1 (dg PR), .row B_ (b.length + 1 + padZ b.length + 8) C_ 5 1 (by8 (padM b)), .row (some ⟨p53, 0, none⟩) 1 1 5 1 (by8 ([128] : List UInt8)), .blk p145 (u32s (wsP p (t + 1))) 119, .blk p154 (c8 a b_ c_ d e f g h) 120] w414 := H411.callNil H416
             have hS417 : Hp w [] [.blk p3 (by8 (bsP (outB (blocks (padM b) ((padM b).length / 64))) 32 0)) 50, .blk p9 (u32s KT) 119, .blk p13 (c8 h0 h1 h2 h3 h4 h5 h6 h7) 120, .row A27 64 c28 31 1 (dg PR), .row B_ (b.length + 1 + padZ b.length + 8) C_ 5 1 (by8 (padM b)), .row (some ⟨p53, 0, none⟩) 1 1 5 1 (by8 ([128] : List UInt8)), .blk p145 (u32s (wsP p (t + 1))) 119, .blk p154 (c8 a b_ c_ d e f g h) 120] w414 := H415.sub (List.Sublist.cons_cons _ (List.Sublist.cons_cons _ (List.Sublist.cons_cons _ (List.Sublist.cons_cons _ (List.Sublist.cons_cons _ (List.Sublist.cons_cons _ (List.Sublist.cons_cons _ (List.Sublist.cons_cons _ (List.Sublist.slnil)))))))))
             refine ⟨_, rfl, hS417, [2, 3, 4, 7, 9, 10, 11, 12, 13, 206, 209, 212, 231], [(2, pt p3 0), (3, pt p9 0), (4, pt p13 0), (7, .slice B_ (b.length + 1 + padZ b.length + 8) C_), (9, vi (64 * j)), (10, pt p145 0), (11, pt p154 0), (12, vi t), (13, vw ((h + (bsg1 e) + (chf e f g) + (KT.getD t 0) + ((wsN p (t + 1)).getD t 0)) % W32)), (206, vw (rt a 2)), (209, vw (rt a 13)), (212, vw a), (231, vw (majf a b_ c_))], by kernel_rfl, ?_⟩
             refine GP.r [6] [(2, pt p3 0), (3, pt p9 0), (4, pt p13 0), (7, .slice B_ (b.length + 1 + padZ b.length + 8) C_), (9, vi (64 * j)), (10, pt p145 0), (11, pt p154 0), (12, vi t), (13, vw ((h + (bsg1 e) + (chf e f g) + (KT.getD t 0) + ((wsN p (t + 1)).getD t 0)) % W32)), (210, lw (Go.bits .xor .u32 (((rt a 2) : Nat) : Int) (((rt a 13) : Nat) : Int))), (212, vw a), (231, vw (majf a b_ c_))] [0, 1, 3, 4, 7, 8, 11, 12, 13, 14, 15, 16, 17, 18, 19, 20, 21, 22, 23, 24, 25, 26, 27, 2, 5, 6] hS417 ?_
             have e418 : (Go.bits .xor .u32 (((rt a 2) : Nat) : Int) (((rt a 13) : Nat) : Int)) = ((((rt a 2) ^^^ (rt a 13)) : Nat) : Int) := w_xor (rt_lt g0) (rt_lt g0)
             refine GP.eq (M' := [(2, pt p3 0), (3, pt p9 0), (4, pt p13 0), (7, .slice B_ (b.length + 1 + padZ b.length + 8) C_), (9, vi (64 * j)), (10, pt p145 0), (11, pt p154 0), (12, vi t), (13, vw ((h + (bsg1 e) + (chf e f g) + (KT.getD t 0) + ((wsN p (t + 1)).getD t 0)) % W32)), (210, vw ((rt a 2) ^^^ (rt a 13))), (212, vw a), (231, vw (majf a b_ c_))]) (by rw [e418]) ?_
             clear e418
             refine GP.call 9 (TurnR22_calls a g0 w414) (by kernel_rfl) (by kernel_rfl) (fun e_ w419 hR => ?_)
             obtain ⟨rfl, H421⟩ := hR
             have H420 : Hp w [] [.blk p3 (by8 (bsP (outB (blocks (padM b) ((padM b).length / 64))) 32 0)) 50, .blk p9 (u32s KT) 119, .blk p13 (c8 h0 h1 h2 h3 h4 h5 h6 h7) 120, .row A27 64 c28 31 1 (dg PR), .row B_ (b.length + 1 + padZ b.length + 8) C_ 5 1 (by8 (padM b)), .row (some ⟨p53, 0, none⟩) 1 1 5 1 (by8 ([128] : List UInt8)), .blk p145 (u32s (wsP p (t + 1))) 119, .blk p154 (c8 a b_ c_ d e f g h) 120] w419 := H415.callNil H421
             have hS422 : Hp w [] [.blk p3 (by8 (bsP (outB (blocks (padM b) ((padM b).length / 64))) 32 0)) 50, .blk p9 (u32s KT) 119, .blk p13 (c8 h0 h1 h2 h3 h4 h5 h6 h7) 120, .row A27 64 c28 31 1 (dg PR), .row B_ (b.length + 1 + padZ b.length + 8) C_ 5 1 (by8 (padM b)), .row (some ⟨p53, 0, none⟩) 1 1 5 1 (by8 ([128] : List UInt8)), .blk p145 (u32s (wsP p (t + 1))) 119, .blk p154 (c8 a b_ c_ d e f g h) 120] w419 := H420.sub (List.Sublist.cons_cons _ (List.Sublist.cons_cons _ (List.Sublist.cons_cons _ (List.Sublist.cons_cons _ (List.Sublist.cons_cons _ (List.Sublist.cons_cons _ (List.Sublist.cons_cons _ (List.Sublist.cons_cons _ (List.Sublist.slnil)))))))))
             refine ⟨_, rfl, hS422, [2, 3, 4, 7, 9, 10, 11, 12, 13, 210, 213, 231], [(2, pt p3 0), (3, pt p9 0), (4, pt p13 0), (7, .slice B_ (b.length + 1 + padZ b.length + 8) C_), (9, vi (64 * j)), (10, pt p145 0), (11, pt p154 0), (12, vi t), (13, vw ((h + (bsg1 e) + (chf e f g) + (KT.getD t 0) + ((wsN p (t + 1)).getD t 0)) % W32)), (210, vw ((rt a 2) ^^^ (rt a 13))), (213, vw (rt a 22)), (231, vw (majf a b_ c_))], by kernel_rfl, ?_⟩
             refine GP.r [10, 28, 29] [(2, pt p3 0), (3, pt p9 0), (4, pt p13 0), (7, .slice B_ (b.length + 1 + padZ b.length + 8) C_), (9, vi (64 * j)), (10, pt p145 0), (11, pt p154 0), (12, vi t), (13, vw ((h + (bsg1 e) + (chf e f g) + (KT.getD t 0) + ((wsN p (t + 1)).getD t 0)) % W32)), (14, lw (IntKind.u32.wrap ((Go.bits .xor .u32 ((((rt a 2) ^^^ (rt a 13)) : Nat) : Int) (((rt a 22) : Nat) : Int)) + (((majf a b_ c_) : Nat) : Int))))] [0, 1, 3, 4, 7, 8, 11, 12, 13, 14, 15, 16, 17, 18, 19, 20, 21, 22, 23, 24, 25, 26, 27, 2, 5, 6, 9, 10, 28, 29] hS422 ?_
             have e423 : (Go.bits .xor .u32 ((((rt a 2) ^^^ (rt a 13)) : Nat) : Int) (((rt a 22) : Nat) : Int)) = (((bsg0 a) : Nat) : Int) := w_xor (xor_lt32 (rt_lt g0) (rt_lt g0)) (rt_lt g0)
             have e424 : (IntKind.u32.wrap ((((bsg0 a) : Nat) : Int) + (((majf a b_ c_) : Nat) : Int))) = ((((bsg0 a) + (majf a b_ c_)) % W32 : Nat) : Int) := w_add _ _
             refine GP.eq (M' := [(2, pt p3 0), (3, pt p9 0), (4, pt p13 0), (7, .slice B_ (b.length + 1 + padZ b.length + 8) C_), (9, vi (64 * j)), (10, pt p145 0), (11, pt p154 0), (12, vi t), (13, vw ((h + (bsg1 e) + (chf e f g) + (KT.getD t 0) + ((wsN p (t + 1)).getD t 0)) % W32)), (14, vw (((bsg0 a) + (majf a b_ c_)) % W32))]) (by rw [e423, e424]) ?_
             clear e423 e424
             refine GP.k (by kernel_rfl) hK401 (fun _ _ h => h) ?_
             refine G.region ?_
             refine GL.r 4 4 [(2, pt p3 0), (3, pt p9 0), (4, pt p13 0), (7, .slice B_ (b.length + 1 + padZ b.length + 8) C_), (9, vi (64 * j)), (10, pt p145 0), (11, pt p154 0), (12, vi t), (13, vw ((h + (bsg1 e) + (chf e f g) + (KT.getD t 0) + ((wsN p (t + 1)).getD t 0)) % W32)), (235, lw (IntKind.u32.wrap ((((h + (bsg1 e) + (chf e f g) + (KT.getD t 0) + ((wsN p (t + 1)).getD t 0)) % W32 : Nat) : Int) + ((((bsg0 a) + (majf a b_ c_)) % W32 : Nat) : Int)))), (236, pt p154 0)] ?_
             have e425 : (IntKind.u32.wrap ((((h + (bsg1 e) + (chf e f g) + (KT.getD t 0) + ((wsN p (t + 1)).getD t 0)) % W32 : Nat) : Int) + ((((bsg0 a) + (majf a b_ c_)) % W32 : Nat) : Int))) = (((((h + (bsg1 e) + (chf e f g) + (KT.getD t 0) + ((wsN p (t + 1)).getD t 0)) % W32) + (((bsg0 a) + (majf a b_ c_)) % W32)) % W32 : Nat) : Int) := w_add _ _
             rw [e425]
             clear e425
             refine GL.s 5 (H420.ld (o := 0) (ty := 22) (v := vw a) 7 rfl (by kernel_rfl) rfl) [(2, pt p3 0), (3, pt p9 0), (4, pt p13 0), (7, .slice B_ (b.length + 1 + padZ b.length + 8) C_), (9, vi (64 * j)), (10, pt p145 0), (11, pt p154 0), (12, vi t), (13, vw ((h + (bsg1 e) + (chf e f g) + (KT.getD t 0) + ((wsN p (t + 1)).getD t 0)) % W32)), (235, vw ((((h + (bsg1 e) + (chf e f g) + (KT.getD t 0) + ((wsN p (t + 1)).getD t 0)) % W32) + (((bsg0 a) + (majf a b_ c_)) % W32)) % W32)), (237, vw a)] ?_
             refine GL.r 6 1 [(2, pt p3 0), (3, pt p9 0), (4, pt p13 0), (7, .slice B_ (b.length + 1 + padZ b.length + 8) C_), (9, vi (64 * j)), (10, pt p145 0), (11, pt p154 0), (12, vi t), (13, vw ((h + (bsg1 e) + (chf e f g) + (KT.getD t 0) + ((wsN p (t + 1)).getD t 0)) % W32)), (235, vw ((((h + (bsg1 e) + (chf e f g) + (KT.getD t 0) + ((wsN p (t + 1)).getD t 0)) % W32) + (((bsg0 a) + (majf a b_ c_)) % W32)) % W32)), (237, vw a), (238, pt p154 1)] ?_
             refine GL.s 7 (H420.ld (o := 1) (ty := 22) (v := vw b_) 7 rfl (by kernel_rfl) rfl) [(2, pt p3 0), (3, pt p9 0), (4, pt p13 0), (7, .slice B_ (b.length + 1 + padZ b.length + 8) C_), (9, vi (64 * j)), (10, pt p145 0), (11, pt p154 0), (12, vi t), (13, vw ((h + (bsg1 e) + (chf e f g) + (KT.getD t 0) + ((wsN p (t + 1)).getD t 0)) % W32)), (235, vw ((((h + (bsg1 e) + (chf e f g) + (KT.getD t 0) + ((wsN p (t + 1)).getD t 0)) % W32) + (((bsg0 a) + (majf a b_ c_)) % W32)) % W32)), (237, vw a), (239, vw b_)] ?_
             refine GL.r 8 1 [(2, pt p3 0), (3, pt p9 0), (4, pt p13 0), (7, .slice B_ (b.length + 1 + padZ b.length + 8) C_), (9, vi (64 * j)), (10, pt p145 0), (11, pt p154 0), (12, vi t), (13, vw ((h + (bsg1 e) + (chf e f g) + (KT.getD t 0) + ((wsN p (t + 1)).getD t 0)) % W32)), (235, vw ((((h + (bsg1 e) + (chf e f g) + (KT.getD t 0) + ((wsN p (t + 1)).getD t 0)) % W32) + (((bsg0 a) + (majf a b_ c_)) % W32)) % W32)), (237, vw a), (239, vw b_), (240, pt p154 2)] ?_
             refine GL.s 9 (H420.ld (o := 2) (ty := 22) (v := vw c_) 7 rfl (by kernel_rfl) rfl) [(2, pt p3 0), (3, pt p9 0), (4, pt p13 0), (7, .slice B_ (b.length + 1 + padZ b.length + 8) C_), (9, vi (64 * j)), (10, pt p145 0), (11, pt p154 0), (12, vi t), (13, vw ((h + (bsg1 e) + (chf e f g) + (KT.getD t 0) + ((wsN p (t + 1)).getD t 0)) % W32)), (235, vw ((((h + (bsg1 e) + (chf e f g) + (KT.getD t 0) + ((wsN p (t + 1)).getD t 0)) % W32) + (((bsg0 a) + (majf a b_ c_)) % W32)) % W32)), (237, vw a), (239, vw b_), (241, vw c_)] ?_
             refine GL.r 10 1 [(2, pt p3 0), (3, pt p9 0), (4, pt p13 0), (7, .slice B_ (b.length + 1 + padZ b.length + 8) C_), (9, vi (64 * j)), (10, pt p145 0), (11, pt p154 0), (12, vi t), (13, vw ((h + (bsg1 e) + (chf e f g) + (KT.getD t 0) + ((wsN p (t + 1)).getD t 0)) % W32)), (235, vw ((((h + (bsg1 e) + (chf e f g) + (KT.getD t 0) + ((wsN p (t + 1)).getD t 0)) % W32) + (((bsg0 a) + (majf a b_ c_)) % W32)) % W32)), (237, vw a), (239, vw b_), (241, vw c_), (242, pt p154 3)] ?_
             refine GL.s 11 (H420.ld (o := 3) (ty := 22) (v := vw d) 7 rfl (by kernel_rfl) rfl) [(2, pt p3 0), (3, pt p9 0), (4, pt p13 0), (7, .slice B_ (b.length + 1 + padZ b.length + 8) C_), (9, vi (64 * j)), (10, pt p145 0), (11, pt p154 0), (12, vi t), (13, vw ((h + (bsg1 e) + (chf e f g) + (KT.getD t 0) + ((wsN p (t + 1)).getD t 0)) % W32)), (235, vw ((((h + (bsg1 e) + (chf e f g) + (KT.getD t 0) + ((wsN p (t + 1)).getD t 0)) % W32) + (((bsg0 a) + (majf a b_ c_)) % W32)) % W32)), (237, vw a), (239, vw b_), (241, vw c_), (243, vw d)] ?_
             refine GL.r 14 3 [(2, pt p3 0), (3, pt p9 0), (4, pt p13 0), (7, .slice B_ (b.length + 1 + padZ b.length + 8) C_), (9, vi (64 * j)), (10, pt p145 0), (11, pt p154 0), (12, vi t), (235, vw ((((h + (bsg1 e) + (chf e f g) + (KT.getD t 0) + ((wsN p (t + 1)).getD t 0)) % W32) + (((bsg0 a) + (majf a b_ c_)) % W32)) % W32)), (237, vw a), (239, vw b_), (241, vw c_), (245, lw (IntKind.u32.wrap ((d : Int) + (((h + (bsg1 e) + (chf e f g) + (KT.getD t 0) + ((wsN p (t + 1)).getD t 0)) % W32 : Nat) : Int)))), (246, pt p154 4)] ?_
             have e426 : (IntKind.u32.wrap ((d : Int) + (((h + (bsg1 e) + (chf e f g) + (KT.getD t 0) + ((wsN p (t + 1)).getD t 0)) % W32 : Nat) : Int))) = (((d + ((h + (bsg1 e) + (chf e f g) + (KT.getD t 0) + ((wsN p (t + 1)).getD t 0)) % W32)) % W32 : Nat) : Int) := w_add _ _
             rw [e426]
             clear e426
             refine GL.s 15 (H420.ld (o := 4) (ty := 22) (v := vw e) 7 rfl (by kernel_rfl) rfl) [(2, pt p3 0), (3, pt p9 0), (4, pt p13 0), (7, .slice B_ (b.length + 1 + padZ b.length + 8) C_), (9, vi (64 * j)), (10, pt p145 0), (11, pt p154 0), (12, vi t), (235, vw ((((h + (bsg1 e) + (chf e f g) + (KT.getD t 0) + ((wsN p (t + 1)).getD t 0)) % W32) + (((bsg0 a) + (majf a b_ c_)) % W32)) % W32)), (237, vw a), (239, vw b_), (241, vw c_), (245, vw ((d + ((h + (bsg1 e) + (chf e f g) + (KT.getD t 0) + ((wsN p (t + 1)).getD t 0)) % W32)) % W32)), (247, vw e)] ?_
             refine GL.r 16 1 [(2, pt p3 0), (3, pt p9 0), (4, pt p13 0), (7, .slice B_ (b.length + 1 + padZ b.length + 8) C_), (9, vi (64 * j)), (10, pt p145 0), (11, pt p154 0), (12, vi t), (235, vw ((((h + (bsg1 e) + (chf e f g) + (KT.getD t 0) + ((wsN p (t + 1)).getD t 0)) % W32) + (((bsg0 a) + (majf a b_ c_)) % W32)) % W32)), (237, vw a), (239, vw b_), (241, vw c_), (245, vw ((d + ((h + (bsg1 e) + (chf e f g) + (KT.getD t 0) + ((wsN p (t + 1)).getD t 0)) % W32)) % W32)), (247, vw e), (248, pt p154 5)] ?_
             refine GL.s 17 (H420.ld (o := 5) (ty := 22) (v := vw f) 7 rfl (by kernel_rfl) rfl) [(2, pt p3 0), (3, pt p9 0), (4, pt p13 0), (7, .slice B_ (b.length + 1 + padZ b.length + 8) C_), (9, vi (64 * j)), (10, pt p145 0), (11, pt p154 0), (12, vi t), (235, vw ((((h + (bsg1 e) + (chf e f g) + (KT.getD t 0) + ((wsN p (t + 1)).getD t 0)) % W32) + (((bsg0 a) + (majf a b_ c_)) % W32)) % W32)), (237, vw a), (239, vw b_), (241, vw c_), (245, vw ((d + ((h + (bsg1 e) + (chf e f g) + (KT.getD t 0) + ((wsN p (t + 1)).getD t 0)) % W32)) % W32)), (247, vw e), (249, vw f)] ?_
             refine GL.r 18 1 [(2, pt p3 0), (3, pt p9 0), (4, pt p13 0), (7, .slice B_ (b.length + 1 + padZ b.length + 8) C_), (9, vi (64 * j)), (10, pt p145 0), (11, pt p154 0), (12, vi t), (235, vw ((((h + (bsg1 e) + (chf e f g) + (KT.getD t 0) + ((wsN p (t + 1)).getD t 0)) % W32) + (((bsg0 a) + (majf a b_ c_)) % W32)) % W32)), (237, vw a), (239, vw b_), (241, vw c_), (245, vw ((d + ((h + (bsg1 e) + (chf e f g) + (KT.getD t 0) + ((wsN p (t + 1)).getD t 0)) % W32)) % W32)), (247, vw e), (249, vw f), (250, pt p154 6)] ?_
             refine GL.s 19 (H420.ld (o := 6) (ty := 22) (v := vw g) 7 rfl (by kernel_rfl) rfl) [(2, pt p3 0), (3, pt p9 0), (4, pt p13 0), (7, .slice B_ (b.length + 1 + padZ b.length + 8) C_), (9, vi (64 * j)), (10, pt p145 0), (11, pt p154 0), (12, vi t), (235, vw ((((h + (bsg1 e) + (chf e f g) + (KT.getD t 0) + ((wsN p (t + 1)).getD t 0)) % W32) + (((bsg0 a) + (majf a b_ c_)) % W32)) % W32)), (237, vw a), (239, vw b_), (241, vw c_), (245, vw ((d + ((h + (bsg1 e) + (chf e f g) + (KT.getD t 0) + ((wsN p (t + 1)).getD t 0)) % W32)) % W32)), (247, vw e), (249, vw f), (251, vw g)] ?_
             refine GL.r 20 1 [(2, pt p3 0), (3, pt p9 0), (4, pt p13 0), (7, .slice B_ (b.length + 1 + padZ b.length + 8) C_), (9, vi (64 * j)), (10, pt p145 0), (11, pt p154 0), (12, vi t), (252, .agg #[vw ((((h + (bsg1 e) + (chf e f g) + (KT.getD t 0) + ((wsN p (t + 1)).getD t 0)) % W32) + (((bsg0 a) + (majf a b_ c_)) % W32)) % W32), vw a, vw b_, vw c_, vw ((d + ((h + (bsg1 e) + (chf e f g) + (KT.getD t 0) + ((wsN p (t + 1)).getD t 0)) % W32)) % W32), vw e, vw f, vw g])] ?_
             obtain ⟨w427, r428, H429⟩ := H420.stA (P := Try.prog) (o := 0) (vs := (c8 ((((h + (bsg1 e) + (chf e f g) + (KT.getD t 0) + ((wsN p (t + 1)).getD t 0)) % W32) + (((bsg0 a) + (majf a b_ c_)) % W32)) % W32) a b_ c_ ((d + ((h + (bsg1 e) + (chf e f g) + (KT.getD t 0) + ((wsN p (t + 1)).getD t 0)) % W32)) % W32) e f g)) (ty := 120) (m := 8) 7 rfl (by kernel_rfl) rfl (by exact Nat.le_refl _) (c8_one)
             refine GL.u 21 r428 [(2, pt p3 0), (3, pt p9 0), (4, pt p13 0), (7, .slice B_ (b.length + 1 + padZ b.length + 8) C_), (9, vi (64 * j)), (10, pt p145 0), (11, pt p154 0), (12, vi t)] ?_
             refine GL.q hK294 ?_
             refine G.region ?_
             refine GL.r 3 3 [(2, pt p3 0), (3, pt p9 0), (4, pt p13 0), (7, .slice B_ (b.length + 1 + padZ b.length + 8) C_), (9, vi (64 * j)), (10, pt p145 0), (11, pt p154 0), (12, li (IntKind.i64.wrap ((t : Int) + 1)))] ?_
             have e430 : (IntKind.i64.wrap ((t : Int) + 1)) = ((t + 1 : Nat) : Int) := by rw [in_i64 (by omega)]; omega
             rw [e430]
             clear e430
             refine GL.fit (ts := [2, 3, 4, 7, 9, 10, 11, 12]) (M' := [(2, pt p3 0), (3, pt p9 0), (4, pt p13 0), (7, .slice B_ (b.length + 1 + padZ b.length + 8) C_), (9, vi (64 * j)), (10, pt p145 0), (11, pt p154 0), (12, vi (t + 1))]) (by kernel_rfl) ?_
             refine GL.eq (M' := [(2, pt p3 0), (3, pt p9 0), (4, pt p13 0), (7, .slice B_ (b.length + 1 + padZ b.length + 8) C_), (9, vi (64 * j)), (10, pt p145 0), (11, pt p154 0), (12, vi (t + 1))]) (by rfl) ?_
             exact GL.again ⟨(t + 1), (((h + (bsg1 e) + (chf e f g) + (KT.getD t 0) + ((wsN p (t + 1)).getD t 0)) % W32) + (((bsg0 a) + (majf a b_ c_)) % W32)) % W32, a, b_, c_, (d + ((h + (bsg1 e) + (chf e f g) + (KT.getD t 0) + ((wsN p (t + 1)).getD t 0)) % W32)) % W32, e, f, g⟩ [2, 3, 4, 7, 9, 10, 11, 12] rfl (by kernel_rfl) (by show 64 - (t + 1) < 64 - t; omega) ⟨⟨by omega, by rw [shaR, ← hv8, hst]; rfl⟩, H429⟩
     · skip
       have hb86f := of_decide_eq_true hb86
       have ei : (56 - 8 * (k : Int)) = ((56 - 8 * k : Nat) : Int) := by omega
       refine G.eq (M' := [(0, .slice A b.length c), (2, pt p3 0), (3, pt p9 0), (4, pt p13 0), (7, .slice B_ (b.length + 1 + padZ b.length + k) C_), (8, vi (56 - 8 * k)), (52, .bool true)]) (by rw [ei]) ?_
       refine G.yes rfl ?_
       refine G.skipK hK83 (fun _ _ h => h) ?_
       refine G.seqK fun K431 hK432 => ?_
       refine G.block ?_
       refine G.region ?_
       refine GL.r 6 6 [(0, .slice A b.length c), (2, pt p3 0), (3, pt p9 0), (4, pt p13 0), (8, vi (56 - 8 * k)), (55, .slice B_ (b.length + 1 + padZ b.length + k) C_), (59, lu (IntKind.u64.wrap ((IntKind.u64.wrap (b.length : Int)) * 8))), (60, vi (56 - 8 * k))] ?_
       have e433 : (IntKind.u64.wrap (b.length : Int)) = ((b.length : Nat) : Int) := in_u64 (by omega)
       have e434 : (IntKind.u64.wrap (((b.length : Nat) : Int) * 8)) = (((b.length * 8) : Nat) : Int) := n_mul' (a := b.length) (b := 8) (by simp only [K]; omega)
       rw [e433, e434]
       clear e433 e434
       refine GL.s 7 (run_shr64 (P := Try.prog) (k' := .i64) (t := 31) (a := (b.length * 8)) (r := (56 - 8 * k)) (by omega) _) [(0, .slice A b.length c), (2, pt p3 0), (3, pt p9 0), (4, pt p13 0), (8, vi (56 - 8 * k)), (55, .slice B_ (b.length + 1 + padZ b.length + k) C_), (61, vu ((b.length * 8) / 2 ^ (56 - 8 * k)))] ?_
       refine GL.r 8 1 [(0, .slice A b.length c), (2, pt p3 0), (3, pt p9 0), (4, pt p13 0), (8, vi (56 - 8 * k)), (55, .slice B_ (b.length + 1 + padZ b.length + k) C_), (62, lb (IntKind.u8.wrap ((((b.length * 8) / 2 ^ (56 - 8 * k)) : Nat) : Int)))] ?_
       have e435 : (IntKind.u8.wrap ((((b.length * 8) / 2 ^ (56 - 8 * k)) : Nat) : Int)) = (((UInt8.ofNat ((b.length * 8) / 2 ^ (56 - 8 * k))).toNat : Nat) : Int) := n_byte _
       rw [e435]
       clear e435
       obtain ⟨p436, w437, r438, H439⟩ := H81.madeRow (P := Try.prog) (Instr.buildSlice 38 1 #[(0, lb (((UInt8.ofNat ((b.length * 8) / 2 ^ (56 - 8 * k))).toNat : Nat) : Int))]) (fun b_ => .slice (some ⟨b_, 0, none⟩) 1 1) [lb (((UInt8.ofNat ((b.length * 8) / 2 ^ (56 - 8 * k))).toNat : Nat) : Int)] 5 1 1 1 (by kernel_rfl) (by decide) (by decide) rfl
       refine GL.s 9 (r438) [(0, .slice A b.length c), (2, pt p3 0), (3, pt p9 0), (4, pt p13 0), (8, vi (56 - 8 * k)), (55, .slice B_ (b.length + 1 + padZ b.length + k) C_), (63, .slice (some ⟨p436, 0, none⟩) 1 1)] ?_
       obtain ⟨A440, c441, w442, r443, H444⟩ := H439.append (P := Try.prog) (e := 5) (sz := 1) (by_ := 1) (n := (b.length + 1 + padZ b.length + k)) (c := C_) (m := 1) (d := 1) (t := 38) (ty := 38) (xs := by8 ((b ++ [128] ++ List.replicate (padZ b.length) 0) ++ lenB b.length k)) (news := by8 ([(UInt8.ofNat ((b.length * 8) / 2 ^ (56 - 8 * k)))] : List UInt8)) 4 rfl (by kernel_rfl) (H439.rdRow 6 rfl) (by first | (simp [by8_length]; done) | (rw [by8_length]; omega) | (rw [by8_length, putB_length])) (by8_one _) (by omega) (by simp only [maxLen]; omega)
       rw [← by8_append] at H444
       have H444 : Hp w [] [.blk p3 (by8 (bsP (outB (blocks (padM b) ((padM b).length / 64))) 32 0)) 50, .blk p9 (u32s (preZ KT 64 64)) 119, .blk p13 (u32s (preZ H0L 64 8)) 120, .row A27 64 c28 31 1 (dg PR), .row A440 ((b.length + 1 + padZ b.length + k) + 1) c441 5 1 (by8 (((b ++ [128] ++ List.replicate (padZ b.length) 0) ++ lenB b.length k) ++ ([(UInt8.ofNat ((b.length * 8) / 2 ^ (56 - 8 * k)))] : List UInt8))), .row (some ⟨p53, 0, none⟩) 1 1 5 1 (by8 ([128] : List UInt8)), .row (some ⟨p436, 0, none⟩) 1 1 5 1 (by8 ([(UInt8.ofNat ((b.length * 8) / 2 ^ (56 - 8 * k)))] : List UInt8))] w442 := H444
       refine GL.s 10 (r443) [(0, .slice A b.length c), (2, pt p3 0), (3, pt p9 0), (4, pt p13 0), (8, vi (56 - 8 * k)), (64, .slice A440 ((b.length + 1 + padZ b.length + k) + 1) c441)] ?_
       refine GL.r 11 1 [(0, .slice A b.length c), (2, pt p3 0), (3, pt p9 0), (4, pt p13 0), (7, .slice A440 ((b.length + 1 + padZ b.length + k) + 1) c441), (8, vi (56 - 8 * k))] ?_
       refine GL.q hK432 ?_
       refine G.region ?_
       refine GL.r 3 3 [(0, .slice A b.length c), (2, pt p3 0), (3, pt p9 0), (4, pt p13 0), (7, .slice A440 ((b.length + 1 + padZ b.length + k) + 1) c441), (8, li (IntKind.i64.wrap ((((56 - 8 * k) : Nat) : Int) - 8)))] ?_
       have e445 : (IntKind.i64.wrap ((((56 - 8 * k) : Nat) : Int) - 8)) = (48 - 8 * (k : Int)) := by rw [in_i64 (by omega)]; omega
       rw [e445]
       clear e445
       have H446 : Hp w [] [.blk p3 (by8 (bsP (outB (blocks (padM b) ((padM b).length / 64))) 32 0)) 50, .blk p9 (u32s (preZ KT 64 64)) 119, .blk p13 (u32s (preZ H0L 64 8)) 120, .row A27 64 c28 31 1 (dg PR), .row A440 ((b.length + 1 + padZ b.length + k) + 1) c441 5 1 (by8 (((b ++ [128] ++ List.replicate (padZ b.length) 0) ++ lenB b.length k) ++ ([(UInt8.ofNat ((b.length * 8) / 2 ^ (56 - 8 * k)))] : List UInt8))), .row (some ⟨p53, 0, none⟩) 1 1 5 1 (by8 ([128] : List UInt8))] w442 := H444.sub (List.Sublist.cons_cons _ (List.Sublist.cons_cons _ (List.Sublist.cons_cons _ (List.Sublist.cons_cons _ (List.Sublist.cons_cons _ (List.Sublist.cons_cons _ (List.Sublist.cons _ (List.Sublist.slnil))))))))
       have H447 : Hp w [] [.blk p3 (by8 (bsP (outB (blocks (padM b) ((padM b).length / 64))) 32 0)) 50, .blk p9 (u32s (preZ KT 64 64)) 119, .blk p13 (u32s (preZ H0L 64 8)) 120, .row A27 64 c28 31 1 (dg PR), .row A440 (b.length + 1 + padZ b.length + (k + 1)) c441 5 1 (by8 ((b ++ [128] ++ List.replicate (padZ b.length) 0) ++ lenB b.length (k + 1))), .row (some ⟨p53, 0, none⟩) 1 1 5 1 (by8 ([128] : List UInt8))] w442 := by rw [lenB, ← List.append_assoc]; exact H446
       refine GL.fit (ts := [0, 2, 3, 4, 7, 8]) (M' := [(0, .slice A b.length c), (2, pt p3 0), (3, pt p9 0), (4, pt p13 0), (7, .slice A440 ((b.length + 1 + padZ b.length + k) + 1) c441), (8, li (48 - 8 * (k : Int)))]) (by kernel_rfl) ?_
       refine GL.eq (M' := [(0, .slice A b.length c), (2, pt p3 0), (3, pt p9 0), (4, pt p13 0), (7, .slice A440 (b.length + 1 + padZ b.length + (k + 1)) c441), (8, li (56 - 8 * (((k + 1) : Nat) : Int)))]) (by first | (rw [show (48 - 8 * (k : Int)) = 56 - 8 * ((k + 1 : Nat) : Int) by omega]; done) | (rw [show (48 - 8 * (k : Int)) = 56 - 8 * ((k + 1 : Nat) : Int) by omega]; rfl)) ?_
       exact GL.again ⟨(k + 1), A440, c441⟩ [0, 2, 3, 4, 7, 8] rfl (by kernel_rfl) (by show 8 - (k + 1) < 8 - k; omega) ⟨by omega, H447⟩
   · skip
     have hb73f : (((b.length + 1 + j) % 64 : Nat) : Int) ≠ 56 := bne_iff_ne.1 hb73
     refine G.yes rfl ?_
     refine G.skipK hK69 (fun _ _ h => h) ?_
     refine G.block ?_
     refine G.region ?_
     refine GL.r 1 1 [(0, .slice A b.length c), (2, pt p3 0), (3, pt p9 0), (4, pt p13 0), (48, .slice B_ (b.length + 1 + j) C_)] ?_
     obtain ⟨p448, w449, r450, H451⟩ := H67.madeRow (P := Try.prog) (Instr.buildSlice 38 1 #[(0, lb 0)]) (fun b_ => .slice (some ⟨b_, 0, none⟩) 1 1) [lb 0] 5 1 1 1 (by kernel_rfl) (by decide) (by decide) rfl
     refine GL.s 2 (r450) [(0, .slice A b.length c), (2, pt p3 0), (3, pt p9 0), (4, pt p13 0), (48, .slice B_ (b.length + 1 + j) C_), (49, .slice (some ⟨p448, 0, none⟩) 1 1)] ?_
     obtain ⟨A452, c453, w454, r455, H456⟩ := H451.append (P := Try.prog) (e := 5) (sz := 1) (by_ := 1) (n := (b.length + 1 + j)) (c := C_) (m := 1) (d := 1) (t := 38) (ty := 38) (xs := by8 (b ++ [128] ++ List.replicate j 0)) (news := by8 ([0] : List UInt8)) 4 rfl (by kernel_rfl) (H451.rdRow 6 rfl) (by first | (simp [by8_length]; done) | (rw [by8_length]; omega) | (rw [by8_length, putB_length])) (by8_one _) (by omega) (by simp only [maxLen]; omega)
     rw [← by8_append] at H456
     have H456 : Hp w [] [.blk p3 (by8 (bsP (outB (blocks (padM b) ((padM b).length / 64))) 32 0)) 50, .blk p9 (u32s (preZ KT 64 64)) 119, .blk p13 (u32s (preZ H0L 64 8)) 120, .row A27 64 c28 31 1 (dg PR), .row A452 ((b.length + 1 + j) + 1) c453 5 1 (by8 ((b ++ [128] ++ List.replicate j 0) ++ ([0] : List UInt8))), .row (some ⟨p53, 0, none⟩) 1 1 5 1 (by8 ([128] : List UInt8)), .row (some ⟨p448, 0, none⟩) 1 1 5 1 (by8 ([0] : List UInt8))] w454 := H456
     refine GL.s 3 (r455) [(0, .slice A b.length c), (2, pt p3 0), (3, pt p9 0), (4, pt p13 0), (50, .slice A452 ((b.length + 1 + j) + 1) c453)] ?_
     refine GL.r 4 1 [(0, .slice A b.length c), (2, pt p3 0), (3, pt p9 0), (4, pt p13 0), (7, .slice A452 ((b.length + 1 + j) + 1) c453)] ?_
     have H457 : Hp w [] [.blk p3 (by8 (bsP (outB (blocks (padM b) ((padM b).length / 64))) 32 0)) 50, .blk p9 (u32s (preZ KT 64 64)) 119, .blk p13 (u32s (preZ H0L 64 8)) 120, .row A27 64 c28 31 1 (dg PR), .row A452 ((b.length + 1 + j) + 1) c453 5 1 (by8 ((b ++ [128] ++ List.replicate j 0) ++ ([0] : List UInt8))), .row (some ⟨p53, 0, none⟩) 1 1 5 1 (by8 ([128] : List UInt8))] w454 := H456.sub (List.Sublist.cons_cons _ (List.Sublist.cons_cons _ (List.Sublist.cons_cons _ (List.Sublist.cons_cons _ (List.Sublist.cons_cons _ (List.Sublist.cons_cons _ (List.Sublist.cons _ (List.Sublist.slnil))))))))
     have H458 : Hp w [] [.blk p3 (by8 (bsP (outB (blocks (padM b) ((padM b).length / 64))) 32 0)) 50, .blk p9 (u32s (preZ KT 64 64)) 119, .blk p13 (u32s (preZ H0L 64 8)) 120, .row A27 64 c28 31 1 (dg PR), .row A452 (b.length + 1 + (j + 1)) c453 5 1 (by8 (b ++ [128] ++ List.replicate (j + 1) 0)), .row (some ⟨p53, 0, none⟩) 1 1 5 1 (by8 ([128] : List UInt8))] w454 := by rw [List.replicate_succ', ← List.append_assoc]; exact H457
     refine GL.fit (ts := [0, 2, 3, 4, 7]) (M' := [(0, .slice A b.length c), (2, pt p3 0), (3, pt p9 0), (4, pt p13 0), (7, .slice A452 ((b.length + 1 + j) + 1) c453)]) (by kernel_rfl) ?_
     refine GL.eq (M' := [(0, .slice A b.length c), (2, pt p3 0), (3, pt p9 0), (4, pt p13 0), (7, .slice A452 (b.length + 1 + (j + 1)) c453)]) (by rfl) ?_
     exact GL.againB ⟨(j + 1), A452, c453⟩ [0, 2, 3, 4, 7] rfl (by kernel_rfl) (by show padZ b.length - (j + 1) < padZ b.length - j; omega) ⟨by omega, H458⟩
 · skip
   have hb39f := of_decide_eq_true hb39
   refine G.yes rfl ?_
   refine G.skipK hK38 (fun _ _ h => h) ?_
   refine G.seqK fun K459 hK460 => ?_
   refine G.block ?_
   refine G.sr fun K461 hK462 => ?_
   refine GL.r 1 1 [(0, .slice A b.length c), (2, pt p3 0), (3, pt p9 0), (4, pt p13 0), (20, .slice A27 64 c28), (21, li 64), (22, vi i), (24, vi i)] ?_
   refine GL.s 2 (run_idxRd (P := Try.prog) (k := .i64) (t := 121) (A := A27) (len := 64) (cap := c28) (j := i) (by kernel_rfl) rfl (H34.rdRow 3 rfl) (by first | exact dg_length _ | rw [dg_length]; first | rfl | assumption | (symm; assumption) | (simp; done) | (rw [List.length_take]; omega) | omega) (by omega)) [(0, .slice A b.length c), (2, pt p3 0), (3, pt p9 0), (4, pt p13 0), (20, .slice A27 64 c28), (21, li 64), (22, vi i), (24, vi i), (25, .pointer (Option.map (fun x => Addr.add x i) A27))] ?_
   refine GL.s 3 (run_ldRd (P := Try.prog) (ty := 31) (A := A27) (j := i) (v := vu (PR.getD i 0)) (by kernel_rfl) (H34.rdRow 3 rfl) (dg_at (getD_at (show i < PR.length by omega)))) [(0, .slice A b.length c), (2, pt p3 0), (3, pt p9 0), (4, pt p13 0), (20, .slice A27 64 c28), (21, li 64), (22, vi i), (24, vi i), (26, vu (PR.getD i 0))] ?_
   refine GL.r 5 2 [(0, .slice A b.length c), (2, pt p3 0), (3, pt p9 0), (4, pt p13 0), (5, vi i), (6, vu (PR.getD i 0)), (20, .slice A27 64 c28), (21, li 64), (22, vi i)] ?_
   refine GL.q hK462 ?_
   refine G.sr fun K463 hK464 => ?_
   refine GL.r 2 2 [(0, .slice A b.length c), (2, pt p3 0), (3, pt p9 0), (4, pt p13 0), (5, vi i), (6, vu (PR.getD i 0)), (20, .slice A27 64 c28), (21, li 64), (22, vi i), (27, vi i), (28, vu (PR.getD i 0))] ?_
   refine GL.call (j := 3) (Root3_calls (PR.getD i 0) (PR_lt _) w32) (by kernel_rfl) rfl (fun e_ w465 hR => ?_)
   obtain ⟨rfl, H467⟩ := hR
   have H466 : Hp w [] [.blk p3 (by8 (bsP (outB (blocks (padM b) ((padM b).length / 64))) 32 0)) 50, .blk p9 (u32s (preZ KT i 64)) 119, .blk p13 (u32s (preZ H0L i 8)) 120, .row A27 64 c28 31 1 (dg PR)] w465 := H34.callNil H467
   refine ⟨_, rfl, [0, 2, 3, 4, 5, 6, 20, 21, 22, 27, 29], [(0, .slice A b.length c), (2, pt p3 0), (3, pt p9 0), (4, pt p13 0), (5, vi i), (6, vu (PR.getD i 0)), (20, .slice A27 64 c28), (21, li 64), (22, vi i), (27, vi i), (29, vw (rootS (PR.getD i 0) 3 36 % W32))], by kernel_rfl, ?_⟩
   refine GL.s 4 (run_idxArr (P := Try.prog) (k := .i64) (t := 119) (len := 64) (sz := 1) (b := p9) (o := 0) (j := i) (by kernel_rfl) rfl (by omega)) [(0, .slice A b.length c), (2, pt p3 0), (3, pt p9 0), (4, pt p13 0), (5, vi i), (6, vu (PR.getD i 0)), (20, .slice A27 64 c28), (21, li 64), (22, vi i), (29, vw (rootS (PR.getD i 0) 3 36 % W32)), (30, pt p9 (0 + i * 1))] ?_
   obtain ⟨w468, r469, H470⟩ := H466.st (P := Try.prog) (o := (0 + i * 1)) (ty := 22) (v := vw (rootS (PR.getD i 0) 3 36 % W32)) 1 rfl (by kernel_rfl) (by rw [u32s_length, preZ_length KT_length]; omega) rfl
   rw [show (0 + i * 1) = i by omega, u32s_set] at H470
   have H470 : Hp w [] [.blk p3 (by8 (bsP (outB (blocks (padM b) ((padM b).length / 64))) 32 0)) 50, .blk p9 (u32s (List.set (preZ KT i 64) i (rootS (PR.getD i 0) 3 36 % W32))) 119, .blk p13 (u32s (preZ H0L i 8)) 120, .row A27 64 c28 31 1 (dg PR)] w468 := H470
   refine GL.u 5 r469 [(0, .slice A b.length c), (2, pt p3 0), (3, pt p9 0), (4, pt p13 0), (5, vi i), (6, vu (PR.getD i 0)), (20, .slice A27 64 c28), (21, li 64), (22, vi i)] ?_
   refine GL.q hK464 ?_
   refine G.sr fun K471 hK472 => ?_
   refine GL.r 2 2 [(0, .slice A b.length c), (2, pt p3 0), (3, pt p9 0), (4, pt p13 0), (5, vi i), (6, vu (PR.getD i 0)), (20, .slice A27 64 c28), (21, li 64), (22, vi i), (32, .bool (decide ((i : Int) < 8)))] ?_
   refine GL.q hK472 ?_
   cases hb473 : (decide ((i : Int) < 8))
   · skip
     have hb473f := of_decide_eq_false hb473
     refine G.no rfl ?_
     refine G.skipK hK460 (fun _ _ h => h) ?_
     refine G.region ?_
     refine GL.r 2 2 [(0, .slice A b.length c), (2, pt p3 0), (3, pt p9 0), (4, pt p13 0), (20, .slice A27 64 c28), (21, li 64), (22, li (IntKind.i64.wrap ((i : Int) + 1)))] ?_
     have e474 : (IntKind.i64.wrap ((i : Int) + 1)) = ((i + 1 : Nat) : Int) := by rw [in_i64 (by omega)]; omega
     rw [e474]
     clear e474
     have H475 : Hp w [] [.blk p3 (by8 (bsP (outB (blocks (padM b) ((padM b).length / 64))) 32 0)) 50, .blk p9 (u32s (preZ KT (i + 1) 64)) 119, .blk p13 (u32s (preZ H0L (i + 1) 8)) 120, .row A27 64 c28 31 1 (dg PR)] w468 := by rw [← preZ_set (L := KT) (n := 64) (v := (rootS (PR.getD i 0) 3 36 % W32)) (by omega) KT_length (root3_at (by omega)), preZ_over (L := H0L) (n := 8) (i := i) (by omega) rfl]; exact H470
     refine GL.fit (ts := [0, 2, 3, 4, 20, 21, 22]) (M' := [(0, .slice A b.length c), (2, pt p3 0), (3, pt p9 0), (4, pt p13 0), (20, .slice A27 64 c28), (21, li 64), (22, vi (i + 1))]) (by kernel_rfl) ?_
     refine GL.eq (M' := [(0, .slice A b.length c), (2, pt p3 0), (3, pt p9 0), (4, pt p13 0), (20, .slice A27 64 c28), (21, li 64), (22, vi (i + 1))]) (by rfl) ?_
     exact GL.again (i + 1) [0, 2, 3, 4, 20, 21, 22] rfl (by kernel_rfl) (by show 64 - (i + 1) < 64 - i; omega) ⟨by omega, H475⟩
   · skip
     have hb473f := of_decide_eq_true hb473
     refine G.yes rfl ?_
     refine G.region ?_
     refine GL.r 2 2 [(0, .slice A b.length c), (2, pt p3 0), (3, pt p9 0), (4, pt p13 0), (20, .slice A27 64 c28), (21, li 64), (22, vi i), (33, vi i), (34, vu (PR.getD i 0))] ?_
     refine GL.call (j := 3) (Root2_calls (PR.getD i 0) (PR_lt _) w468) (by kernel_rfl) rfl (fun e_ w476 hR => ?_)
     obtain ⟨rfl, H478⟩ := hR
     have H477 : Hp w [] [.blk p3 (by8 (bsP (outB (blocks (padM b) ((padM b).length / 64))) 32 0)) 50, .blk p9 (u32s (List.set (preZ KT i 64) i (rootS (PR.getD i 0) 3 36 % W32))) 119, .blk p13 (u32s (preZ H0L i 8)) 120, .row A27 64 c28 31 1 (dg PR)] w476 := H470.callNil H478
     refine ⟨_, rfl, [0, 2, 3, 4, 20, 21, 22, 33, 35], [(0, .slice A b.length c), (2, pt p3 0), (3, pt p9 0), (4, pt p13 0), (20, .slice A27 64 c28), (21, li 64), (22, vi i), (33, vi i), (35, vw (rootS (PR.getD i 0) 2 36 % W32))], by kernel_rfl, ?_⟩
     refine GL.s 4 (run_idxArr (P := Try.prog) (k := .i64) (t := 120) (len := 8) (sz := 1) (b := p13) (o := 0) (j := i) (by kernel_rfl) rfl (by omega)) [(0, .slice A b.length c), (2, pt p3 0), (3, pt p9 0), (4, pt p13 0), (20, .slice A27 64 c28), (21, li 64), (22, vi i), (35, vw (rootS (PR.getD i 0) 2 36 % W32)), (36, pt p13 (0 + i * 1))] ?_
     obtain ⟨w479, r480, H481⟩ := H477.st (P := Try.prog) (o := (0 + i * 1)) (ty := 22) (v := vw (rootS (PR.getD i 0) 2 36 % W32)) 2 rfl (by kernel_rfl) (by rw [u32s_length, preZ_length (L := H0L) (n := 8) rfl]; omega) rfl
     rw [show (0 + i * 1) = i by omega, u32s_set] at H481
     have H481 : Hp w [] [.blk p3 (by8 (bsP (outB (blocks (padM b) ((padM b).length / 64))) 32 0)) 50, .blk p9 (u32s (List.set (preZ KT i 64) i (rootS (PR.getD i 0) 3 36 % W32))) 119, .blk p13 (u32s (List.set (preZ H0L i 8) i (rootS (PR.getD i 0) 2 36 % W32))) 120, .row A27 64 c28 31 1 (dg PR)] w479 := H481
     refine GL.u 5 r480 [(0, .slice A b.length c), (2, pt p3 0), (3, pt p9 0), (4, pt p13 0), (20, .slice A27 64 c28), (21, li 64), (22, vi i)] ?_
     refine GL.q hK460 ?_
     refine G.region ?_
     refine GL.r 2 2 [(0, .slice A b.length c), (2, pt p3 0), (3, pt p9 0), (4, pt p13 0), (20, .slice A27 64 c28), (21, li 64), (22, li (IntKind.i64.wrap ((i : Int) + 1)))] ?_
     have e482 : (IntKind.i64.wrap ((i : Int) + 1)) = ((i + 1 : Nat) : Int) := by rw [in_i64 (by omega)]; omega
     rw [e482]
     clear e482
     have H483 : Hp w [] [.blk p3 (by8 (bsP (outB (blocks (padM b) ((padM b).length / 64))) 32 0)) 50, .blk p9 (u32s (preZ KT (i + 1) 64)) 119, .blk p13 (u32s (preZ H0L (i + 1) 8)) 120, .row A27 64 c28 31 1 (dg PR)] w479 := by rw [← preZ_set (L := KT) (n := 64) (v := (rootS (PR.getD i 0) 3 36 % W32)) (by omega) KT_length (root3_at (by omega)), ← preZ_set (L := H0L) (n := 8) (v := (rootS (PR.getD i 0) 2 36 % W32)) (by omega) rfl (root2_at (by omega))]; exact H481
     refine GL.fit (ts := [0, 2, 3, 4, 20, 21, 22]) (M' := [(0, .slice A b.length c), (2, pt p3 0), (3, pt p9 0), (4, pt p13 0), (20, .slice A27 64 c28), (21, li 64), (22, vi (i + 1))]) (by kernel_rfl) ?_
     refine GL.eq (M' := [(0, .slice A b.length c), (2, pt p3 0), (3, pt p9 0), (4, pt p13 0), (20, .slice A27 64 c28), (21, li 64), (22, vi (i + 1))]) (by rfl) ?_
     exact GL.again (i + 1) [0, 2, 3, 4, 20, 21, 22] rfl (by kernel_rfl) (by show 64 - (i + 1) < 64 - i; omega) ⟨by omega, H483⟩
end Go.Proofs.Ytcedmbdahbdmaaa
