/- A row's argument of four words, as a number. -/
import Derived.Test.YtgmggjnoegelgaaGh
import Derived.Test.YtgmggjnoegelgaaWd
namespace Go.Proofs.Ytgmggjnoegelgaa
open Go.RowKit

theorem words_of {cs : List Value} (hlen : cs.length = 4) (h : ∀ i, i < 4 → ∃ n : Nat, cs[i]? = some (.int .u64 (n : Int)) ∧ n < 2 ^ 64) :
    ∃ X, X < K4 ∧ cs = [.int .u64 (wd X 0 : Int), .int .u64 (wd X 1 : Int), .int .u64 (wd X 2 : Int), .int .u64 (wd X 3 : Int)] := by
  obtain ⟨a, h0, a0⟩ := h 0 (by decide)
  obtain ⟨b, h1, b0⟩ := h 1 (by decide)
  obtain ⟨c, h2, c0⟩ := h 2 (by decide)
  obtain ⟨d, h3, d0⟩ := h 3 (by decide)
  have e : cs = [.int .u64 (a : Int), .int .u64 (b : Int), .int .u64 (c : Int), .int .u64 (d : Int)] := by
    match cs, hlen with
    | [w, x, y, z], _ =>
      simp at h0 h1 h2 h3
      rw [h0, h1, h2, h3]
  obtain ⟨e0, e1, e2, e3⟩ := wd_of a b c d a0 b0 c0 d0
  refine ⟨a + K * b + K * K * c + K * K * K * d, wv_lt a0 b0 c0 d0, ?_⟩
  rw [e0, e1, e2, e3, e]
theorem cmp_neg {x y : Nat} : cmpN x y < 0 ↔ x < y := by
  unfold cmpN
  split
  · omega
  · split <;> omega
theorem of_fin {a : Nat} (ha : a < K) : (.agg #[.int .u64 (a : Int), .int .u64 0, .int .u64 0, .int .u64 0] : Value) = wv a := by
  exact wv_of (a := a) (b := 0) (c := 0) (d := 0) (x := a) ha (by decide) (by decide) (by decide) (by omega)
end Go.Proofs.Ytgmggjnoegelgaa
