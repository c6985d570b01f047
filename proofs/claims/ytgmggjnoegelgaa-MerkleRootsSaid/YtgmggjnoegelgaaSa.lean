/- The standard's sum of bytes, over whole numbers; words of 32 bits, their operations. Plain laws. -/
import Derived.Test.YtgmggjnoegelgaaOe
import Derived.Test.YtgmggjnoegelgaaRa
import Derived.Laws.BitsAllLaws
namespace Go.Proofs.Ytgmggjnoegelgaa
open Go.RowKit

abbrev W32 : Nat := 4294967296
/-- Eight words as cells. -/
abbrev c8 (a b c d e f g h : Nat) : List Value := [.int .u32 (a : Int), .int .u32 (b : Int), .int .u32 (c : Int), .int .u32 (d : Int), .int .u32 (e : Int), .int .u32 (f : Int), .int .u32 (g : Int), .int .u32 (h : Int)]
/-! ### words in cells -/
def u32s (ws : List Nat) : List Value := ws.map fun d : Nat => Value.int .u32 (d : Int)
theorem c8_one {a b c d e f g h : Nat} : ∀ v ∈ c8 a b c d e f g h, v.oneCell' = true := by
  intro v hv
  simp only [List.mem_cons, List.not_mem_nil, or_false] at hv
  rcases hv with rfl | rfl | rfl | rfl | rfl | rfl | rfl | rfl <;> rfl
theorem u32s_length (ws : List Nat) : (u32s ws).length = ws.length := by simp [u32s]
theorem u32s_at {ws : List Nat} {j d : Nat} (h : ws[j]? = some d) : (u32s ws)[j]? = some (.int .u32 (d : Int)) := by simp [u32s, h]
theorem u32s_set (ws : List Nat) (j d : Nat) : (u32s ws).set j (.int .u32 (d : Int)) = u32s (ws.set j d) := by simp [u32s, List.map_set]
theorem u32s_one (ws : List Nat) : ∀ v ∈ u32s ws, v.oneCell' = true := by
  intro v hv
  simp [u32s] at hv
  obtain ⟨d, _, rfl⟩ := hv
  rfl
theorem getD_at {ws : List Nat} {j : Nat} (h : j < ws.length) : ws[j]? = some (ws.getD j 0) := by rw [List.getD_eq_getElem?_getD, List.getElem?_eq_getElem h]; rfl
/-! ### operations -/
theorem w_and {a b : Nat} (ha : a < W32) (hb : b < W32) : Go.bits .and .u32 (a : Int) (b : Int) = ((a &&& b : Nat) : Int) :=
  (bits_nat .u32 32 (by decide) (fun n h0 h1 => by rw [IntKind.wrap_u32]; omega) a b (by simpa [W32] using ha) (by simpa [W32] using hb)).1
theorem w_or {a b : Nat} (ha : a < W32) (hb : b < W32) : Go.bits .or .u32 (a : Int) (b : Int) = ((a ||| b : Nat) : Int) :=
  (bits_nat .u32 32 (by decide) (fun n h0 h1 => by rw [IntKind.wrap_u32]; omega) a b (by simpa [W32] using ha) (by simpa [W32] using hb)).2
theorem and_lt32 {a b : Nat} (ha : a < W32) : a &&& b < W32 := Nat.lt_of_le_of_lt Nat.and_le_left ha
theorem or_lt32 {a b : Nat} (ha : a < W32) (hb : b < W32) : a ||| b < W32 := by
  rw [show W32 = 2 ^ 32 from rfl] at *
  exact Nat.or_lt_two_pow ha hb
theorem xor_lt32 {a b : Nat} (ha : a < W32) (hb : b < W32) : a ^^^ b < W32 := by
  rw [show W32 = 2 ^ 32 from rfl] at *
  exact Nat.xor_lt_two_pow ha hb
theorem w_add (a b : Nat) : IntKind.u32.wrap ((a : Int) + (b : Int)) = (((a + b) % W32 : Nat) : Int) := by rw [IntKind.wrap_u32]; simp only [W32]; omega
theorem w_addm (a b : Nat) : IntKind.u32.wrap (((a % W32 : Nat) : Int) + (b : Int)) = (((a + b) % W32 : Nat) : Int) := by rw [w_add, Nat.mod_add_mod]
theorem w_u8 (a : Nat) : IntKind.u8.wrap (a : Int) = (((UInt8.ofNat a).toNat : Nat) : Int) := n_byte a
theorem run_shl32 {P : Program} {t : TypeId} {k' : IntKind} {a r : Nat} (hr : r ≤ 32) (w : World) : (binOp .shl t (.int .u32 (a : Int)) (.int k' (r : Int))).run P w = .ok (.int .u32 ((a * 2 ^ r % W32 : Nat) : Int)) w := by
  rw [run_shl rfl (by omega), show min ((r : Int)).toNat IntKind.u32.bits = r from by simp only [IntKind.bits]; omega]
  have e : ((a : Int) * 2 ^ r) = ((a * 2 ^ r : Nat) : Int) := by simp
  rw [e, IntKind.wrap_u32]
  congr 2
theorem run_shr32 {P : Program} {t : TypeId} {k' : IntKind} {a r : Nat} (hr : r ≤ 32) (w : World) : (binOp .shr t (.int .u32 (a : Int)) (.int k' (r : Int))).run P w = .ok (.int .u32 ((a / 2 ^ r : Nat) : Int)) w := by
  rw [run_shr rfl (by omega), show min ((r : Int)).toNat IntKind.u32.bits = r from by simp only [IntKind.bits]; omega, n_shr]
theorem w_shl (a n : Nat) : IntKind.u32.wrap ((a : Int) * 2 ^ n) = ((a * 2 ^ n % W32 : Nat) : Int) := by
  have e : ((a : Int) * 2 ^ n) = ((a * 2 ^ n : Nat) : Int) := by simp
  rw [e, IntKind.wrap_u32]
  generalize a * 2 ^ n = x
  simp only [W32]
  omega
/-- A shift that goes down by a number below 64. -/
theorem run_shr64 {P : Program} {t : TypeId} {k' : IntKind} {a r : Nat} (hr : r ≤ 64) (w : World) : (binOp .shr t (.int .u64 (a : Int)) (.int k' (r : Int))).run P w = .ok (.int .u64 ((a / 2 ^ r : Nat) : Int)) w := run_shrN hr w
section
variable {P : Program} {w : World}
/-- 's[lo:hi:max]' of a slice whose elements are one cell. -/
theorem run_slice3 {t len cap : Nat} {A : Option Addr} {l h m : Nat} {k1 k2 k3 : IntKind} (ht : slcOf P t = some 1) (hlh : l ≤ h) (hhm : h ≤ m) (hmc : m ≤ cap) :
    (Instr.sliceAt t (.slice A len cap) (some (.int k1 (l : Int))) (some (.int k2 (h : Int))) (some (.int k3 (m : Int)))).run P w = .ok (.slice (if m = l then A else A.map (·.add l)) (h - l) (m - l)) w := by
  obtain ⟨e, hu, hs⟩ := slcOf_spec ht
  have hb : (Instr.sliceBounds true len cap (some (.int k1 (l : Int))) (some (.int k2 (h : Int))) (some (.int k3 (m : Int)))).run P w = .ok (l, h, m) w := by
    simp [Instr.sliceBounds, Instr.sliceBound, asIntOf, hlh, hhm, hmc]
  simp only [Instr.sliceAt, Sem.run_bind, run_underlying hu, Result.andThen_ok, Instr.slice, hb, hs, Sem.run_pure, Nat.mul_one]
end
/-! ### a region that draws and only reads, in a walk that holds rounds -/
section
variable {P : Program} {ops : Array Oper} {Q : Exit → Act → World → Prop} {i n : Nat} {M : FM} {w : World} {C : World → Prop}
theorem RG.ofG {c : Code} (h : G P c Q n M w) : RG P c none [] Q n M w := fun F hF hM => (wpIn_wide (n := 0)).2 (h F hF hM)
theorem RG.draw {id : Nat} {w0 : World} {S : List Nat} {L : List Ent} (H : Hp w0 S L w) (hm : P.follows .mixedOrders = true) (hB : Region.lexB .any ops = true)
    (h : GQ P ops (Hp w0 S L) (fun a' => ∀ w', Hp w0 S L w' → Q .normal a' w') 0 n M) : RG P (.region id ops true) none [] Q n M w := RG.ofG (G.draw H hm hB h)
theorem GQ.kR {Q' : Exit → Act → World → Prop} {K : Act → World → Prop} {b : Code} (hi : Nat.ble ops.size i = true) (hK : ∀ a w, b.wpIn (FR none) 0 P Q' a w → K a w) (hq : ∀ a w, K a w → Q .normal a w)
    (h : ∀ w, C w → RG P b none [] Q' n M w) : GQ P ops C (fun a' => ∀ w', C w' → Q .normal a' w') i n M := GQ.done hi fun F hF hM w hw => hq _ _ (hK _ _ (h w hw F hF hM))
theorem RL.againB {ds : List Deferred} {r : Option Nat} {id : Nat} {X : Type} {Mx : X → FM} {J : X → World → Prop} {μ : X → Nat} {x : X} (x' : X) (ts : List Nat) (hi : Nat.ble ops.size i = true) (hp : pick ts M = some (Mx x')) (hμ : μ x' < μ x) (hJ : J x' w) :
    RL P ops r ds (Exit.inBlock id (Exit.then (AgainR n ds Mx J μ x) Q)) i n M w :=
  RL.done hi fun F hF hM => (⟨x', hμ, hJ, F, rfl, hF, hM.pick hp⟩ : AgainR n ds Mx J μ x ⟨F, ds⟩ w)
end
/-! ### the sum -/
def rt (x n : Nat) : Nat := x * 2 ^ (32 - n) % W32 ||| x / 2 ^ n
def ssg0 (x : Nat) : Nat := rt x 7 ^^^ rt x 18 ^^^ x / 2 ^ 3
def ssg1 (x : Nat) : Nat := rt x 17 ^^^ rt x 19 ^^^ x / 2 ^ 10
def bsg0 (x : Nat) : Nat := rt x 2 ^^^ rt x 13 ^^^ rt x 22
def bsg1 (x : Nat) : Nat := rt x 6 ^^^ rt x 11 ^^^ rt x 25
def chf (e f g : Nat) : Nat := (e &&& f) ^^^ ((4294967295 ^^^ e) &&& g)
def majf (a b c : Nat) : Nat := (a &&& b) ^^^ (a &&& c) ^^^ (b &&& c)
theorem rt_lt {x n : Nat} (hx : x < W32) : rt x n < W32 := or_lt32 (Nat.mod_lt _ (by decide)) (Nat.lt_of_le_of_lt (Nat.div_le_self _ _) hx)
theorem ssg0_lt {x : Nat} (hx : x < W32) : ssg0 x < W32 := xor_lt32 (xor_lt32 (rt_lt hx) (rt_lt hx)) (Nat.lt_of_le_of_lt (Nat.div_le_self _ _) hx)
theorem ssg1_lt {x : Nat} (hx : x < W32) : ssg1 x < W32 := xor_lt32 (xor_lt32 (rt_lt hx) (rt_lt hx)) (Nat.lt_of_le_of_lt (Nat.div_le_self _ _) hx)
/-- A word of four bytes, the highest first. -/
def beF (p : List UInt8) (o : Nat) : Nat → Nat
  | 0 => 0
  | k + 1 => beF p o k * 256 + (p.getD (o + k) 0).toNat
theorem beF_lt (p : List UInt8) (o k : Nat) : beF p o k < 256 ^ k := by
  induction k with
  | zero => simp [beF]
  | succ k ih =>
    have := (p.getD (o + k) 0).toNat_lt
    rw [beF, Nat.pow_succ]
    have h := Nat.mul_le_mul_right 256 (show beF p o k + 1 ≤ 256 ^ k from ih)
    rw [Nat.add_mul] at h
    omega
/-- The words of a block, one behind the other. -/
def wsN (p : List UInt8) : Nat → List Nat
  | 0 => []
  | i + 1 => wsN p i ++ [if i < 16 then beF p (4 * i) 4 else ((wsN p i).getD (i - 16) 0 + ssg0 ((wsN p i).getD (i - 15) 0) + (wsN p i).getD (i - 7) 0 + ssg1 ((wsN p i).getD (i - 2) 0)) % W32]
theorem wsN_length (p : List UInt8) (i : Nat) : (wsN p i).length = i := by
  induction i with
  | zero => rfl
  | succ i ih => rw [wsN, List.length_append, ih]; rfl
theorem wsN_lt (p : List UInt8) (i : Nat) : ∀ d ∈ wsN p i, d < W32 := by
  induction i with
  | zero => intro d hd; simp [wsN] at hd
  | succ i ih =>
    intro d hd
    rw [wsN] at hd
    rcases List.mem_append.1 hd with h | h
    · exact ih d h
    · rw [List.mem_singleton.1 h]
      split
      · exact beF_lt p (4 * i) 4
      · exact Nat.mod_lt _ (by decide)
theorem getD_lt {ws : List Nat} (h : ∀ d ∈ ws, d < W32) (j : Nat) : ws.getD j 0 < W32 := by
  by_cases hj : j < ws.length
  · exact h _ (List.mem_of_getElem? (getD_at hj))
  · rw [List.getD_eq_getElem?_getD, List.getElem?_eq_none (by omega)]
    decide
/-- The words so far, then noughts. -/
def wsP (p : List UInt8) (i : Nat) : List Nat := wsN p i ++ List.replicate (64 - i) 0
theorem wsP_length {p : List UInt8} {i : Nat} (h : i ≤ 64) : (wsP p i).length = 64 := by
  rw [wsP, List.length_append, wsN_length, List.length_replicate]
  omega
theorem wsP_getD {p : List UInt8} {i j : Nat} (h : j < i) : (wsP p i).getD j 0 = (wsN p i).getD j 0 := by
  rw [List.getD_eq_getElem?_getD, List.getD_eq_getElem?_getD, wsP, List.getElem?_append_left (by rw [wsN_length]; exact h)]
theorem wsP_here {p : List UInt8} {i : Nat} (h : i < 64) : (wsP p i)[i]? = some 0 := by
  rw [wsP, List.getElem?_append_right (by rw [wsN_length]; exact Nat.le_refl _), wsN_length, Nat.sub_self, List.getElem?_replicate, if_pos (by omega)]
theorem wsP_set {p : List UInt8} {i v : Nat} (h : i < 64) (hv : v = if i < 16 then beF p (4 * i) 4 else ((wsN p i).getD (i - 16) 0 + ssg0 ((wsN p i).getD (i - 15) 0) + (wsN p i).getD (i - 7) 0 + ssg1 ((wsN p i).getD (i - 2) 0)) % W32) :
    (wsP p i).set i v = wsP p (i + 1) := by
  unfold wsP
  rw [wsN, ← hv, List.set_append_right _ _ (by rw [wsN_length]; exact Nat.le_refl _), wsN_length, Nat.sub_self, show 64 - i = (64 - (i + 1)) + 1 by omega, List.replicate_succ, List.set_cons_zero, List.append_assoc]
  rfl
theorem wsP_at {p : List UInt8} {i j : Nat} (h : j < i) (hi : i ≤ 64) : (wsP p i)[j]? = some ((wsN p i).getD j 0) := by
  rw [← wsP_getD h]
  exact getD_at (by rw [wsP_length hi]; omega)
theorem wsP_put {p : List UInt8} {i v : Nat} (h : i < 64) : ((wsP p i).set i v)[i]? = some v := by
  rw [List.getElem?_set_self (by rw [wsP_length (by omega)]; exact h)]
theorem wsP_none {p : List UInt8} {i : Nat} (h : i < 64) : (wsP p i).set i 0 = wsP p i := by
  refine List.ext_getElem? fun j => ?_
  by_cases hj : i = j
  · subst hj
    rw [wsP_put h, wsP_here h]
  · rw [List.getElem?_set_ne hj]
theorem cut_getD {p : List UInt8} {l k n : Nat} (hk : k < n) : ((p.take (l + n)).drop l).getD k 0 = p.getD (l + k) 0 := by
  rw [List.getD_eq_getElem?_getD, List.getD_eq_getElem?_getD, List.getElem?_drop, List.getElem?_take_of_lt (by omega)]
theorem w_orbyte {x b : Nat} (hx : x < 16777216) (hb : b < 256) : Go.bits .or .u32 ((x * 256 : Nat) : Int) (b : Int) = ((x * 256 + b : Nat) : Int) := by
  rw [w_or (by simp only [W32]; omega) (by simp only [W32]; omega), Nat.mul_comm x, show (256 : Nat) = 2 ^ 8 from rfl, ← Nat.two_pow_add_eq_or_of_lt hb]
theorem w_shl8 {x : Nat} (hx : x < 16777216) : IntKind.u32.wrap ((x : Int) * 2 ^ 8) = ((x * 256 : Nat) : Int) := by
  rw [w_shl, Nat.mod_eq_of_lt (by simp only [W32]; omega)]
theorem w_xor {a b : Nat} (ha : a < W32) (hb : b < W32) : Go.bits .xor .u32 (a : Int) (b : Int) = ((a ^^^ b : Nat) : Int) := by
  have h := u32_xor_nat a b ha hb
  exact h
/-- Eight words. -/
abbrev V8 : Type := Nat × Nat × Nat × Nat × Nat × Nat × Nat × Nat
def stepF (k w : Nat) : V8 → V8
  | (a, b, c, d, e, f, g, h) => (((h + bsg1 e + chf e f g + k + w) % W32 + (bsg0 a + majf a b c) % W32) % W32, a, b, c, (d + (h + bsg1 e + chf e f g + k + w) % W32) % W32, e, f, g)
def KT : List Nat := [
  0x428a2f98, 0x71374491, 0xb5c0fbcf, 0xe9b5dba5, 0x3956c25b, 0x59f111f1, 0x923f82a4, 0xab1c5ed5, 0xd807aa98, 0x12835b01, 0x243185be, 0x550c7dc3, 0x72be5d74, 0x80deb1fe, 0x9bdc06a7, 0xc19bf174,
  0xe49b69c1, 0xefbe4786, 0x0fc19dc6, 0x240ca1cc, 0x2de92c6f, 0x4a7484aa, 0x5cb0a9dc, 0x76f988da, 0x983e5152, 0xa831c66d, 0xb00327c8, 0xbf597fc7, 0xc6e00bf3, 0xd5a79147, 0x06ca6351, 0x14292967,
  0x27b70a85, 0x2e1b2138, 0x4d2c6dfc, 0x53380d13, 0x650a7354, 0x766a0abb, 0x81c2c92e, 0x92722c85, 0xa2bfe8a1, 0xa81a664b, 0xc24b8b70, 0xc76c51a3, 0xd192e819, 0xd6990624, 0xf40e3585, 0x106aa070,
  0x19a4c116, 0x1e376c08, 0x2748774c, 0x34b0bcb5, 0x391c0cb3, 0x4ed8aa4a, 0x5b9cca4f, 0x682e6ff3, 0x748f82ee, 0x78a5636f, 0x84c87814, 0x8cc70208, 0x90befffa, 0xa4506ceb, 0xbef9a3f7, 0xc67178f2]
theorem KT_length : KT.length = 64 := by decide
def H0 : V8 := (0x6a09e667, 0xbb67ae85, 0x3c6ef372, 0xa54ff53a, 0x510e527f, 0x9b05688c, 0x1f83d9ab, 0x5be0cd19)
def shaR (p : List UInt8) (s : V8) : Nat → V8
  | 0 => s
  | i + 1 => stepF (KT.getD i 0) ((wsN p 64).getD i 0) (shaR p s i)
def add8 : V8 → V8 → V8
  | (a, b, c, d, e, f, g, h), (a', b', c', d', e', f', g', h') => ((a + a') % W32, (b + b') % W32, (c + c') % W32, (d + d') % W32, (e + e') % W32, (f + f') % W32, (g + g') % W32, (h + h') % W32)
def blockF (s : V8) (p : List UInt8) : V8 := add8 s (shaR p s 64)
def ok8 : V8 → Prop
  | (a, b, c, d, e, f, g, h) => a < W32 ∧ b < W32 ∧ c < W32 ∧ d < W32 ∧ e < W32 ∧ f < W32 ∧ g < W32 ∧ h < W32
theorem ok8_step {k w : Nat} {v : V8} (h : ok8 v) : ok8 (stepF k w v) := by
  obtain ⟨a, b, c, d, e, f, g, x⟩ := v
  obtain ⟨h1, h2, h3, h4, h5, h6, h7, h8⟩ := h
  exact ⟨Nat.mod_lt _ (by decide), h1, h2, h3, Nat.mod_lt _ (by decide), h5, h6, h7⟩
theorem ok8_rounds {p : List UInt8} {s : V8} (h : ok8 s) (i : Nat) : ok8 (shaR p s i) := by
  induction i with
  | zero => exact h
  | succ i ih => exact ok8_step ih
theorem ok8_add {s t : V8} : ok8 (add8 s t) := by
  obtain ⟨a, b, c, d, e, f, g, x⟩ := s
  obtain ⟨a', b', c', d', e', f', g', x'⟩ := t
  exact ⟨Nat.mod_lt _ (by decide), Nat.mod_lt _ (by decide), Nat.mod_lt _ (by decide), Nat.mod_lt _ (by decide), Nat.mod_lt _ (by decide), Nat.mod_lt _ (by decide), Nat.mod_lt _ (by decide), Nat.mod_lt _ (by decide)⟩
/-- Eight words as cells. -/
def v8c : V8 → List Value
  | (a, b, c, d, e, f, g, h) => [.int .u32 (a : Int), .int .u32 (b : Int), .int .u32 (c : Int), .int .u32 (d : Int), .int .u32 (e : Int), .int .u32 (f : Int), .int .u32 (g : Int), .int .u32 (h : Int)]
/-- All blocks, from the first on. -/
def blocks (m : List UInt8) : Nat → V8
  | 0 => H0
  | j + 1 => blockF (blocks m j) ((m.drop (64 * j)).take 64)
theorem ok8_blocks (m : List UInt8) (j : Nat) : ok8 (blocks m j) := by
  cases j with
  | zero =>
    show ok8 H0
    unfold H0 ok8
    simp only [W32]
    omega
  | succ j =>
    show ok8 (blockF (blocks m j) _)
    unfold blockF
    exact ok8_add
/-- The bytes, with what is laid behind them: up to a whole number of blocks. -/
def padZ (n : Nat) : Nat := (119 - n % 64) % 64
def lenB (n : Nat) : Nat → List UInt8
  | 0 => []
  | k + 1 => lenB n k ++ [UInt8.ofNat (n * 8 / 2 ^ (56 - 8 * k))]
theorem lenB_length (n k : Nat) : (lenB n k).length = k := by
  induction k with
  | zero => rfl
  | succ k ih => rw [lenB, List.length_append, ih]; rfl
def padM (b : List UInt8) : List UInt8 := b ++ [128] ++ List.replicate (padZ b.length) 0 ++ lenB b.length 8
theorem padM_length (b : List UInt8) : (padM b).length = 64 * ((b.length + 1 + padZ b.length + 8) / 64) := by
  unfold padM padZ
  simp only [List.length_append, List.length_replicate, lenB_length, List.length_cons, List.length_nil]
  omega
def at8 : V8 → Nat → Nat
  | (a, b, c, d, e, f, g, h), i => [a, b, c, d, e, f, g, h].getD i 0
def outF (s : V8) : List UInt8 := (List.range 32).map fun i => UInt8.ofNat (at8 s (i / 4) / 2 ^ (24 - 8 * (i % 4)))
/-- The standard's sum of bytes. -/
def sha (b : List UInt8) : List UInt8 := outF (blocks (padM b) ((padM b).length / 64))
end Go.Proofs.Ytgmggjnoegelgaa
