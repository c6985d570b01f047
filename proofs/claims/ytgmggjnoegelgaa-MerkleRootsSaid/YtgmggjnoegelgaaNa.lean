/- Digits of 16 bits, the lowest first: lists, and the numbers that they are. Plain arithmetic. -/
import Derived.Test.YtgmggjnoegelgaaMa
namespace Go.Proofs.Ytgmggjnoegelgaa
open Go.RowKit

/-- The number of digits. -/
def val : List Nat → Nat
  | [] => 0
  | d :: ds => d + 65536 * val ds
/-- Digits below 2^16. -/
def ok16 (ds : List Nat) : Prop := ∀ d ∈ ds, d < 65536
def digsF : Nat → Nat → List Nat
  | 0, _ => []
  | f + 1, n => if n = 0 then [] else n % 65536 :: digsF f (n / 65536)
/-- The digits of a number, as many as are needed. -/
def digs (n : Nat) : List Nat := digsF n n
/-- Digit number i. -/
def dgt (n i : Nat) : Nat := n / 65536 ^ i % 65536
/-- How many digits. -/
def ndg (n : Nat) : Nat := (digs n).length
theorem digsF_eq (f : Nat) : ∀ (g n : Nat), n ≤ f → n ≤ g → digsF f n = digsF g n := by
  induction f with
  | zero =>
    intro g n h _
    have : n = 0 := by omega
    subst this
    cases g <;> simp [digsF]
  | succ f ih =>
    intro g n h hg
    by_cases hn : n = 0
    · subst hn
      cases g <;> simp [digsF]
    · cases g with
      | zero => omega
      | succ g =>
        simp only [digsF, if_neg hn]
        rw [ih g (n / 65536) (by omega) (by omega)]
theorem digs_zero : digs 0 = [] := rfl
theorem ndg_zero : ndg 0 = 0 := rfl
theorem digs_pos {n : Nat} (h : n ≠ 0) : digs n = n % 65536 :: digs (n / 65536) := by
  have e : digsF n n = n % 65536 :: digsF (n - 1) (n / 65536) := by
    obtain ⟨m, rfl⟩ : ∃ m, n = m + 1 := ⟨n - 1, by omega⟩
    simp only [digsF, if_neg h]
    rfl
  unfold digs
  rw [e, digsF_eq (n - 1) (n / 65536) (n / 65536) (by omega) (Nat.le_refl _)]
theorem val_digs (n : Nat) : val (digs n) = n := by
  induction n using Nat.strongRecOn with
  | _ n ih =>
    by_cases h : n = 0
    · subst h
      rfl
    · rw [digs_pos h]
      simp only [val]
      rw [ih (n / 65536) (by omega)]
      omega
theorem ok_digs (n : Nat) : ok16 (digs n) := by
  induction n using Nat.strongRecOn with
  | _ n ih =>
    by_cases h : n = 0
    · subst h
      intro d hd
      simp [digs_zero] at hd
    · rw [digs_pos h]
      intro d hd
      rcases List.mem_cons.1 hd with rfl | hd
      · exact Nat.mod_lt _ (by decide)
      · exact ih (n / 65536) (by omega) d hd
theorem ndg_lt {n i : Nat} : i < ndg n ↔ 65536 ^ i ≤ n := by
  unfold ndg
  induction i generalizing n with
  | zero =>
    by_cases h : n = 0
    · subst h
      simp [digs_zero]
    · rw [digs_pos h]
      simp
      omega
  | succ i ih =>
    by_cases h : n = 0
    · subst h
      have : 0 < 65536 ^ (i + 1) := Nat.pow_pos (by decide)
      simp only [digs_zero, List.length_nil]
      omega
    · rw [digs_pos h, List.length_cons, Nat.add_lt_add_iff_right, ih, Nat.le_div_iff_mul_le (by decide), Nat.pow_succ]
theorem ndg_le {n i : Nat} : ndg n ≤ i ↔ n < 65536 ^ i := by
  have := ndg_lt (n := n) (i := i)
  omega
theorem ndg_pow (n : Nat) : n < 65536 ^ ndg n := ndg_le.1 (Nat.le_refl _)
theorem digs_get {n i : Nat} (h : i < ndg n) : (digs n)[i]? = some (dgt n i) := by
  unfold ndg at h
  induction i generalizing n with
  | zero =>
    have h0 : n ≠ 0 := by
      intro h0
      subst h0
      simp [digs_zero] at h
    rw [digs_pos h0]
    simp [dgt]
  | succ i ih =>
    have h0 : n ≠ 0 := by
      intro h0
      subst h0
      simp [digs_zero] at h
    rw [digs_pos h0] at h ⊢
    rw [List.getElem?_cons_succ, ih (by simpa using h), dgt, dgt, Nat.div_div_eq_div_mul, Nat.pow_succ, Nat.mul_comm]
theorem digs_at {n i d : Nat} (h : (digs n)[i]? = some d) : d = dgt n i := by
  have hi : i < ndg n := (List.getElem?_eq_some_iff.1 h).1
  rw [digs_get hi] at h
  injection h with h
  exact h.symm
theorem dgt_zero {n i : Nat} (h : ndg n ≤ i) : dgt n i = 0 := by
  rw [dgt, Nat.div_eq_of_lt (ndg_le.1 h)]
theorem dgt_lt (n i : Nat) : dgt n i < 65536 := Nat.mod_lt _ (by decide)
theorem pow_pos16 (i : Nat) : 0 < 65536 ^ i := Nat.pow_pos (by decide)
theorem low_step (n i : Nat) : n % 65536 ^ (i + 1) = n % 65536 ^ i + 65536 ^ i * dgt n i := by rw [Nat.pow_succ, Nat.mod_mul, dgt]
theorem high_step (n i : Nat) : n / 65536 ^ i = 65536 * (n / 65536 ^ (i + 1)) + dgt n i := by
  rw [Nat.pow_succ, ← Nat.div_div_eq_div_mul, dgt]
  omega

theorem val_append (a b : List Nat) : val (a ++ b) = val a + 65536 ^ a.length * val b := by
  induction a with
  | nil => simp [val]
  | cons d a ih =>
    simp only [List.cons_append, val, List.length_cons]
    rw [ih, Nat.mul_add, Nat.pow_succ, Nat.mul_comm (65536 ^ a.length) 65536, Nat.mul_assoc, Nat.add_assoc]
theorem val_snoc (a : List Nat) (d : Nat) : val (a ++ [d]) = val a + 65536 ^ a.length * d := by
  rw [val_append]
  simp [val]
theorem val_lt {ds : List Nat} (h : ok16 ds) : val ds < 65536 ^ ds.length := by
  induction ds with
  | nil => simp [val]
  | cons d ds ih =>
    have h1 := ih (fun x hx => h x (List.mem_cons_of_mem _ hx))
    have h2 := h d (List.mem_cons_self ..)
    simp only [val, List.length_cons, Nat.pow_succ]
    omega
theorem ok_snoc {ds : List Nat} {d : Nat} (h : ok16 ds) (hd : d < 65536) : ok16 (ds ++ [d]) := by
  intro x hx
  rcases List.mem_append.1 hx with hx | hx
  · exact h x hx
  · rw [List.mem_singleton.1 hx]
    exact hd
theorem ok_nil : ok16 [] := fun d hd => by simp at hd
theorem ok_set {ds : List Nat} {j d : Nat} (h : ok16 ds) (hd : d < 65536) : ok16 (ds.set j d) := by
  intro x hx
  rcases List.mem_or_eq_of_mem_set hx with hx | rfl
  · exact h x hx
  · exact hd
theorem ok_zeros (n : Nat) : ok16 (List.replicate n 0) := by
  intro x hx
  rw [(List.mem_replicate.1 hx).2]
  decide
theorem val_zeros (n : Nat) : val (List.replicate n 0) = 0 := by
  induction n with
  | zero => rfl
  | succ n ih => rw [List.replicate_succ, val, ih]
theorem val_set {xs : List Nat} {j d v : Nat} (h : xs[j]? = some d) : val (xs.set j v) + 65536 ^ j * d = val xs + 65536 ^ j * v := by
  induction xs generalizing j with
  | nil => simp at h
  | cons x xs ih =>
    cases j with
    | zero =>
      simp at h
      subst h
      simp only [List.set_cons_zero, val, Nat.pow_zero, Nat.one_mul]
      omega
    | succ j =>
      have := ih (j := j) (by simpa using h)
      simp only [List.set_cons_succ, val, Nat.pow_succ]
      rw [Nat.mul_comm (65536 ^ j) 65536, Nat.mul_assoc, Nat.mul_assoc]
      omega
theorem val_take {ds : List Nat} {m d : Nat} (h : ds[m]? = some d) : val (ds.take (m + 1)) = val (ds.take m) + 65536 ^ m * d := by
  have hm : m < ds.length := (List.getElem?_eq_some_iff.1 h).1
  rw [List.take_add_one, h, Option.toList_some, val_snoc, List.length_take, Nat.min_eq_left (by omega)]
theorem digs_val {ds : List Nat} (hok : ok16 ds) (hl : ds = [] ∨ ∃ d, ds[ds.length - 1]? = some d ∧ d ≠ 0) : digs (val ds) = ds := by
  induction ds with
  | nil => rfl
  | cons d ds ih =>
    obtain ⟨e, he, he0⟩ := hl.resolve_left (by simp)
    have hd := hok d (List.mem_cons_self ..)
    by_cases hn : ds = []
    · subst hn
      simp at he
      subst he
      rw [digs_pos (by simp [val]; exact he0)]
      simp only [val, Nat.mul_zero, Nat.add_zero]
      rw [Nat.mod_eq_of_lt hd, Nat.div_eq_of_lt hd, digs_zero]
    · have hlen : 0 < ds.length := by
        cases ds with
        | nil => exact absurd rfl hn
        | cons _ _ => simp
      have h1 := ih (fun x hx => hok x (List.mem_cons_of_mem _ hx)) (.inr ⟨e, by rw [← he, List.length_cons, Nat.add_sub_cancel, show ds.length = (ds.length - 1) + 1 from by omega, List.getElem?_cons_succ, Nat.add_sub_cancel], he0⟩)
      have h0 : val ds ≠ 0 := by
        intro h0
        rw [h0, digs_zero] at h1
        exact hn h1.symm
      rw [val, digs_pos (by omega), show (d + 65536 * val ds) % 65536 = d from by omega, show (d + 65536 * val ds) / 65536 = val ds from by omega, h1]
/-- Without noughts at the end. -/
theorem trimmed {ds : List Nat} {m : Nat} (hok : ok16 ds) (hm : m ≤ ds.length) (hv : val (ds.take m) = val ds) (hl : m = 0 ∨ ∃ d, ds[m - 1]? = some d ∧ d ≠ 0) : digs (val ds) = ds.take m ∧ ndg (val ds) = m := by
  have e : digs (val ds) = ds.take m := by
    rw [← hv]
    refine digs_val (fun x hx => hok x (List.mem_of_mem_take hx)) ?_
    rcases hl with rfl | ⟨d, hd, h0⟩
    · exact .inl rfl
    · by_cases hm0 : m = 0
      · subst hm0
        exact .inl rfl
      · refine .inr ⟨d, ?_, h0⟩
        rw [List.length_take, Nat.min_eq_left hm, List.getElem?_take_of_lt (by omega)]
        exact hd
  exact ⟨e, by rw [ndg, e, List.length_take, Nat.min_eq_left hm]⟩
theorem digs_take {ds : List Nat} (hok : ok16 ds) : ndg (val ds) ≤ ds.length ∧ digs (val ds) = ds.take (ndg (val ds)) := by
  have key : ∀ m, m ≤ ds.length → val (ds.take m) = val ds → ∃ k, k ≤ m ∧ val (ds.take k) = val ds ∧ (k = 0 ∨ ∃ d, ds[k - 1]? = some d ∧ d ≠ 0) := by
    intro m
    induction m with
    | zero => intro _ hv; exact ⟨0, Nat.le_refl _, hv, .inl rfl⟩
    | succ m ih =>
      intro hm hv
      obtain ⟨d, hd⟩ : ∃ d, ds[m]? = some d := ⟨_, List.getElem?_eq_getElem (by omega)⟩
      by_cases h0 : d = 0
      · subst h0
        rw [val_take hd, Nat.mul_zero, Nat.add_zero] at hv
        obtain ⟨k, h1, h2, h3⟩ := ih (by omega) hv
        exact ⟨k, by omega, h2, h3⟩
      · exact ⟨m + 1, Nat.le_refl _, hv, .inr ⟨d, by simpa using hd, h0⟩⟩
  obtain ⟨k, h1, h2, h3⟩ := key ds.length (Nat.le_refl _) (by rw [List.take_length])
  obtain ⟨e1, e2⟩ := trimmed hok h1 h2 h3
  rw [e2]
  exact ⟨h1, e1⟩

/-! ### cells -/
def dg (ds : List Nat) : List Value := ds.map fun d : Nat => Value.int .u64 (d : Int)
theorem dg_length (ds : List Nat) : (dg ds).length = ds.length := by simp [dg]
theorem dg_digs (n : Nat) : (dg (digs n)).length = ndg n := by rw [dg_length]; rfl
theorem dg_at {ds : List Nat} {j d : Nat} (h : ds[j]? = some d) : (dg ds)[j]? = some (.int .u64 (d : Int)) := by simp [dg, h]
theorem dg_append (a b : List Nat) : dg (a ++ b) = dg a ++ dg b := by simp [dg]
theorem dg_snoc (a : List Nat) (d : Nat) : dg a ++ [.int .u64 (d : Int)] = dg (a ++ [d]) := by simp [dg]
theorem dg_set (a : List Nat) (j d : Nat) : (dg a).set j (.int .u64 (d : Int)) = dg (a.set j d) := by simp [dg, List.map_set]
theorem dg_take (a : List Nat) (n : Nat) : (dg a).take n = dg (a.take n) := by simp [dg, List.map_take]
theorem dg_one (ds : List Nat) : ∀ v ∈ dg ds, v.oneCell' = true := by
  intro v hv
  simp [dg] at hv
  obtain ⟨b, _, rfl⟩ := hv
  rfl
theorem RdS.takeD {w : World} {A : Option Addr} {ds : List Nat} (h : RdS w A (dg ds)) (n : Nat) : RdS w A (dg (ds.take n)) := by
  rw [← dg_take]
  exact h.take n
theorem dg_at_get {ds : List Nat} {j : Nat} {v : Value} (h : (dg ds)[j]? = some v) : ∃ d, ds[j]? = some d ∧ v = .int .u64 (d : Int) := by
  simp [dg] at h
  obtain ⟨d, h1, h2⟩ := h
  exact ⟨d, h1, h2.symm⟩
/-- A row's end is cut away. -/
theorem row_shrink {w : World} {A : Option Addr} {n c e m : Nat} {xs : List Value} (h : w.ownsRow 0 e 1 (.slice A n c) n xs) (hm : m ≤ n) : w.ownsRow 0 e 1 (.slice A m c) m (xs.take m) := by
  rcases h.2 with ⟨h0, hn⟩ | ⟨g, cap, cur, hv, hg, hh, hnc, hfz, hsz, ht⟩
  · injection h0 with h1 h2 h3
    subst h1 h2 h3
    have : m = 0 := by omega
    subst this
    refine ⟨by simp, .inl ⟨rfl, rfl⟩⟩
  · injection hv with h1 h2 h3
    subst h1 h3
    have hl := h.1
    rw [Nat.mul_one] at hl
    refine ⟨by rw [List.length_take]; omega, .inr ⟨g, c, cur, rfl, hg, hh, by omega, hfz, hsz, ?_⟩⟩
    rw [← ht, List.take_take, Nat.mul_one, Nat.mul_one, Nat.min_eq_left (by omega)]
theorem Hp.shrink {w0 w : World} {S : List Nat} {L : List Ent} (H : Hp w0 S L w) (i : Nat) {A : Option Addr} {n c e : Nat} {xs : List Value} (hL : L[i]? = some (.row A n c e 1 xs)) (m : Nat) (hm : m ≤ n) : Hp w0 S (L.set i (.row A m c e 1 (xs.take m))) w :=
  H.turn i hL rfl (row_shrink (H.rowAt i hL) hm) rfl rfl rfl (Nat.le_refl _) (fun _ _ _ => rfl)
/-- A row of digits loses the noughts at its end. -/
theorem Hp.shrinkD {w0 w : World} {S : List Nat} {L : List Ent} (H : Hp w0 S L w) (i : Nat) {A : Option Addr} {n c e : Nat} {ds : List Nat} (hL : L[i]? = some (.row A n c e 1 (dg ds))) (hn : n = ds.length) (hok : ok16 ds) : Hp w0 S (L.set i (.row A (ndg (val ds)) c e 1 (dg (digs (val ds))))) w := by
  obtain ⟨h1, h2⟩ := digs_take hok
  have h := H.shrink i hL (ndg (val ds)) (by omega)
  rwa [dg_take, ← h2] at h
end Go.Proofs.Ytgmggjnoegelgaa
