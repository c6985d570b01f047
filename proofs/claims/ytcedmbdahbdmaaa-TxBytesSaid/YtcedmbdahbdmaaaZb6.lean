/- TxBytes: the row. -/
import Derived.Test.YtcedmbdahbdmaaaZb5
set_option linter.unusedVariables false
set_option maxRecDepth 100000
namespace Go.Proofs.Ytcedmbdahbdmaaa
open Go.RowKit
def lgP (ins : List TIn) (outs : List TOut) (i j : Nat) : Prop := 64 < ins.length ∨ 64 < outs.length ∨ (∃ x ∈ ins.take i, 520 < x.kb.length) ∨ ∃ x ∈ outs.take j, 520 < x.lb.length
instance (ins : List TIn) (outs : List TOut) (i j : Nat) : Decidable (lgP ins outs i j) := by unfold lgP; infer_instance
def wnt (outs : List TOut) (j : Nat) : Nat := if ∃ x ∈ outs.take j, 4611686018427387904 < x.pv then 4 else 0
section
variable {α : Type} {l : List α} {i : Nat} {x : α} {p : α → Prop}
theorem ex_step (hx : l[i]? = some x) : (∃ y ∈ l.take (i + 1), p y) ↔ (∃ y ∈ l.take i, p y) ∨ p x := by
 rw [take_step hx]
 constructor
 · rintro ⟨y, hy, hp⟩
   rcases List.mem_append.1 hy with h | h
   · exact .inl ⟨y, h, hp⟩
   · simp only [List.mem_cons, List.not_mem_nil, or_false] at h
     subst h
     exact .inr hp
 · rintro (⟨y, hy, hp⟩ | hp)
   · exact ⟨y, List.mem_append_left _ hy, hp⟩
   · exact ⟨x, List.mem_append_right _ List.mem_cons_self, hp⟩
end
section
variable {ins : List TIn} {outs : List TOut} {i j v lt : Nat}
theorem lg_in {x : TIn} (hx : ins[i]? = some x) : lgP ins outs (i + 1) j ↔ lgP ins outs i j ∨ 520 < x.kb.length := by
 unfold lgP
 rw [ex_step hx]
 constructor
 · rintro (h | h | (h | h) | h)
   · exact .inl (.inl h)
   · exact .inl (.inr (.inl h))
   · exact .inl (.inr (.inr (.inl h)))
   · exact .inr h
   · exact .inl (.inr (.inr (.inr h)))
 · rintro ((h | h | h | h) | h)
   · exact .inl h
   · exact .inr (.inl h)
   · exact .inr (.inr (.inl (.inl h)))
   · exact .inr (.inr (.inr h))
   · exact .inr (.inr (.inl (.inr h)))
theorem lg_out {x : TOut} (hx : outs[j]? = some x) : lgP ins outs i (j + 1) ↔ lgP ins outs i j ∨ 520 < x.lb.length := by
 unfold lgP
 rw [ex_step hx]
 constructor
 · rintro (h | h | h | h | h)
   · exact .inl (.inl h)
   · exact .inl (.inr (.inl h))
   · exact .inl (.inr (.inr (.inl h)))
   · exact .inl (.inr (.inr (.inr h)))
   · exact .inr h
 · rintro ((h | h | h | h) | h)
   · exact .inl h
   · exact .inr (.inl h)
   · exact .inr (.inr (.inl h))
   · exact .inr (.inr (.inr (.inl h)))
   · exact .inr (.inr (.inr (.inr h)))
theorem lgd {A B : Prop} [Decidable A] [Decidable B] {n : Nat} (h : A ↔ B ∨ 520 < n) (hb : decide B = false) : decide A = decide ((520 : Int) < (n : Int)) := by
 rw [decide_eq_decide, h]
 have := of_decide_eq_false hb
 constructor
 · rintro (h | h)
   · exact absurd h this
   · omega
 · intro h
   exact .inr (by omega)
theorem lgt {A B : Prop} [Decidable A] [Decidable B] {n : Nat} (h : A ↔ B ∨ 520 < n) (hb : decide B = true) : decide A = true := decide_eq_true (h.2 (.inl (of_decide_eq_true hb)))
theorem wnt_yes {x : TOut} (hx : outs[j]? = some x) (h : 4611686018427387904 < x.pv) : wnt outs (j + 1) = 4 := if_pos ((ex_step hx).2 (.inr h))
theorem wnt_no {x : TOut} (hx : outs[j]? = some x) (h : ¬ 4611686018427387904 < x.pv) : wnt outs (j + 1) = wnt outs j := by
 unfold wnt
 by_cases hh : ∃ y ∈ outs.take j, 4611686018427387904 < y.pv
 · rw [if_pos hh, if_pos ((ex_step hx).2 (.inl hh))]
 · rw [if_neg hh, if_neg]
   rw [ex_step hx]
   rintro (h1 | h1)
   · exact hh h1
   · exact h h1
theorem lg_zero : decide (lgP ins outs 0 0) = decide (64 < ins.length ∨ 64 < outs.length) := by
 rw [decide_eq_decide]
 unfold lgP
 simp
theorem txE_16 (h : ins.length = 0 ∨ outs.length = 0) : txE v ins outs lt = 16 := by
 have hk : txK ins outs = 16 := if_pos h
 rw [txE, hk]
 rfl
theorem lgP_end : lgP ins outs ins.length outs.length ↔ 64 < ins.length ∨ 64 < outs.length ∨ (∃ x ∈ ins, 520 < x.kb.length) ∨ ∃ x ∈ outs, 520 < x.lb.length := by
 unfold lgP
 rw [List.take_length, List.take_length]
theorem txE_3a (h : ¬ (ins.length = 0 ∨ outs.length = 0)) (hl : lgP ins outs ins.length outs.length) : txE v ins outs lt = 3 := by
 have hk : txK ins outs = 3 := by rw [txK, if_neg h, if_pos (lgP_end.1 hl)]
 rw [txE, hk]
 rfl
theorem txK_0 (h : ¬ (ins.length = 0 ∨ outs.length = 0)) (hl : ¬ lgP ins outs ins.length outs.length) : txK ins outs = 0 := by rw [txK, if_neg h, if_neg (fun hh => hl (lgP_end.2 hh))]
theorem txE_3b (h : ¬ (ins.length = 0 ∨ outs.length = 0)) (hl : ¬ lgP ins outs ins.length outs.length) (hn : 4096 < (txB v ins outs lt).length ∨ (txB v ins outs lt).length = 64) : txE v ins outs lt = 3 := by rw [txE, if_neg (by rw [txK_0 h hl]; decide), if_pos hn]
theorem txE_w (h : ¬ (ins.length = 0 ∨ outs.length = 0)) (hl : ¬ lgP ins outs ins.length outs.length) (hn : ¬ (4096 < (txB v ins outs lt).length ∨ (txB v ins outs lt).length = 64)) : txE v ins outs lt = wnt outs outs.length := by
 rw [txE, if_neg (by rw [txK_0 h hl]; decide), if_neg hn, wnt, List.take_length]
theorem txO_nil (h : txE v ins outs lt ≠ 0) : txO v ins outs lt = [] := if_neg h
theorem vtx_of {w : World} {S T : List Nat} (hv : v < 4294967296) (hlt : lt < 4294967296) (hI : ∀ x ∈ ins, x.Ok w S) (hO : ∀ x ∈ outs, x.Ok w T) (hE : txE v ins outs lt = 0) : VTx v ins outs lt := by
 have hk : txK ins outs = 0 := by
   unfold txE at hE
   split at hE
   · omega
   · omega
 rw [txE, if_neg (by omega)] at hE
 obtain ⟨k1, k2, k3, k4, k5⟩ := txK_zero.1 hk
 have hl : ¬ (4096 < (txB v ins outs lt).length ∨ (txB v ins outs lt).length = 64) := fun hh => by rw [if_pos hh] at hE; cases hE
 rw [if_neg hl] at hE
 refine ⟨⟨hv, hlt, fun x hx => ⟨(hI x hx).1, (hI x hx).2.1, (hI x hx).2.2.1, k4 x hx⟩, fun x hx => ⟨(hO x hx).1, k5 x hx⟩⟩, by omega, by omega, fun x hx => ?_, by omega, by omega⟩
 refine Nat.not_lt.1 fun hp => ?_
 rw [if_pos ⟨x, hx, hp⟩] at hE
 cases hE
end
set_option maxHeartbeats 4000000 in
theorem TxBytes_calls (v : Nat) (ins : List TIn) (A : Option Addr) (ca : Nat) (outs : List TOut) (B : Option Addr) (cb : Nat) (lt : Nat) (w : World) (hv : v < 4294967296) (hlt : lt < 4294967296) (hIns : RdS w A (insC ins)) (hI : ∀ x ∈ ins, x.Ok w []) (hOuts : RdS w B (outsC outs)) (hO : ∀ x ∈ outs, x.Ok w []) (hni : ins.length ≤ maxLen) (hno : outs.length ≤ maxLen) : Calls Try.prog 6 #[.agg #[.int .u32 (v : Int), .slice A ins.length ca, .slice B outs.length cb, .int .u32 (lt : Int)]] w fun e w' => e = .returned (.bool true) ∧ Hp w [] [] w' := by
 have hni_ : ins.length ≤ 9223372036854775807 := hni
 have hno_ : outs.length ≤ 9223372036854775807 := hno
 refine calls_G (args := [.agg #[vw v, .slice A ins.length ca, .slice B outs.length cb, vw lt]]) Try.func6 rfl Try.ntmps6 rfl ?_
 intro Q0 hRet hNor hPan
 have H := Hp.start w
 refine G.sr fun K1 hK2 => ?_
 obtain ⟨p3, w4, r5, H6⟩ := H.box (P := Try.prog) 26 [vw v, .slice A ins.length ca, .slice B outs.length cb, vw lt] (.agg #[vw v, .slice A ins.length ca, .slice B outs.length cb, vw lt]) rfl
 refine GL.s 1 (r5) [(1, pt p3 0)] ?_
 refine GL.r 2 1 [(1, pt p3 0)] ?_
 refine GL.q hK2 ?_
 refine G.seqK fun K7 hK8 => ?_
 refine G.sr fun K9 hK10 => ?_
 refine GL.call (j := 1) (lives_calls w4) (by kernel_rfl) rfl (fun e_ w11 hR => ?_)
 obtain ⟨rfl, H13⟩ := hR
 have H12 : Hp w [] [.blk p3 [vw v, .slice A ins.length ca, .slice B outs.length cb, vw lt] 26] w11 := H6.callNil H13
 refine ⟨_, rfl, [1, 16], [(1, pt p3 0), (16, .bool true)], by kernel_rfl, ?_⟩
 refine GL.r 3 2 [(1, pt p3 0), (18, .bool false)] ?_
 refine GL.s 4 (H12.ldA (o := 0) (ty := 26) (m := 4) (sub := [vw v, .slice A ins.length ca, .slice B outs.length cb, vw lt]) 0 rfl (by kernel_rfl) rfl rfl) [(1, pt p3 0), (18, .bool false), (19, .agg #[vw v, .slice A ins.length ca, .slice B outs.length cb, vw lt])] ?_
 refine GL.call (j := 5) (Few_calls v ins A ca outs B cb lt w11 hv hlt (hIns.hp H12) (oks_mid hI H12) (hOuts.hp H12) (oksO_mid hO H12) hni hno) (by kernel_rfl) rfl (fun e_ w14 hR => ?_)
 obtain ⟨rfl, H16⟩ := hR
 have H15 : Hp w [] [.blk p3 [vw v, .slice A ins.length ca, .slice B outs.length cb, vw lt] 26] w14 := H12.callNil H16
 refine ⟨_, rfl, [1, 18, 20], [(1, pt p3 0), (18, .bool false), (20, .bool (txF ins outs))], by kernel_rfl, ?_⟩
 refine GL.r 7 2 [(1, pt p3 0), (22, .bool (!(txF ins outs)))] ?_
 refine GL.q hK10 ?_
 cases hb17 : (txF ins outs)
 · skip
   refine G.yes rfl ?_
   refine G.sr fun K18 hK19 => ?_
   refine GL.call (j := 1) (lives_calls w14) (by kernel_rfl) rfl (fun e_ w20 hR => ?_)
   obtain ⟨rfl, H22⟩ := hR
   have H21 : Hp w [] [.blk p3 [vw v, .slice A ins.length ca, .slice B outs.length cb, vw lt] 26] w20 := H15.callNil H22
   refine ⟨_, rfl, [23], [(23, .bool true)], by kernel_rfl, ?_⟩
   refine GL.r 2 1 [(2, .bool true)] ?_
   refine GL.q hK19 ?_
   refine G.ret fun F_ hF_ hM_ => hRet _ _ (bodyPost_1 rfl (RV.tmp rfl) ?_ F_ hF_ hM_)
   exact ⟨rfl, H21.sub (List.nil_sublist _)⟩
 · skip
   have hF : ins.length ≤ 70 ∧ outs.length ≤ 70 ∧ (∀ x ∈ ins, x.kb.length ≤ 600) ∧ ∀ x ∈ outs, x.lb.length ≤ 600 := of_decide_eq_true hb17
   have hF1 := hF.1
   have hF2 := hF.2.1
   refine G.no rfl ?_
   refine G.skipK hK8 (fun _ _ h => h) ?_
   refine G.sr fun K23 hK24 => ?_
   refine GL.s 1 (H15.ldA (o := 0) (ty := 26) (m := 4) (sub := [vw v, .slice A ins.length ca, .slice B outs.length cb, vw lt]) 0 rfl (by kernel_rfl) rfl rfl) [(1, pt p3 0), (25, .agg #[vw v, .slice A ins.length ca, .slice B outs.length cb, vw lt])] ?_
   refine GL.call (j := 2) (TBytes_calls v ins A ca outs B cb lt w14 hv hlt (hIns.hp H15) (oks_mid hI H15) (hOuts.hp H15) (oksO_mid hO H15) hni hno) (by kernel_rfl) rfl (fun e_ w28 hR => ?_)
   obtain ⟨A25, n26, c27, rfl, H30⟩ := hR
   have H29 : Hp w [] [.blk p3 [vw v, .slice A ins.length ca, .slice B outs.length cb, vw lt] 26, .row A25 n26 c27 5 1 (by8 (txO v ins outs lt))] w28 := H15.callNew H30
   have hlA25 := (H29.rowLe 1 rfl).2.1
   rw [by8_length, Nat.mul_one] at hlA25
   refine ⟨_, rfl, [1, 26], [(1, pt p3 0), (26, .tuple #[.slice A25 n26 c27, vi (txE v ins outs lt)])], by kernel_rfl, ?_⟩
   refine GL.r 7 5 [(1, pt p3 0), (3, .slice A25 n26 c27), (4, vi (txE v ins outs lt))] ?_
   refine GL.q hK24 ?_
   refine G.sr fun K31 hK32 => ?_
   refine GL.s 1 (H29.ldA (o := 0) (ty := 26) (m := 4) (sub := [vw v, .slice A ins.length ca, .slice B outs.length cb, vw lt]) 0 rfl (by kernel_rfl) rfl rfl) [(1, pt p3 0), (3, .slice A25 n26 c27), (4, vi (txE v ins outs lt)), (30, .agg #[vw v, .slice A ins.length ca, .slice B outs.length cb, vw lt])] ?_
   refine GL.call (j := 2) (THash_calls v ins A ca outs B cb lt w28 hv hlt (hIns.hp H29) (oks_mid hI H29) (hOuts.hp H29) (oksO_mid hO H29) hni hno) (by kernel_rfl) rfl (fun e_ w33 hR => ?_)
   obtain ⟨rfl, H35⟩ := hR
   have H34 : Hp w [] [.blk p3 [vw v, .slice A ins.length ca, .slice B outs.length cb, vw lt] 26, .row A25 n26 c27 5 1 (by8 (txO v ins outs lt))] w33 := H29.callNil H35
   refine ⟨_, rfl, [1, 3, 4, 31], [(1, pt p3 0), (3, .slice A25 n26 c27), (4, vi (txE v ins outs lt)), (31, .tuple #[.agg (by8 (txH v ins outs lt)).toArray, vi (txE v ins outs lt)])], by kernel_rfl, ?_⟩
   refine GL.r 5 3 [(1, pt p3 0), (3, .slice A25 n26 c27), (4, vi (txE v ins outs lt)), (32, .agg (by8 (txH v ins outs lt)).toArray), (33, vi (txE v ins outs lt))] ?_
   obtain ⟨p36, w37, r38, H39⟩ := H34.alloc (P := Try.prog) 51 (by8 (List.replicate 32 0)) (by kernel_rfl)
   refine GL.s 6 (r38) [(1, pt p3 0), (3, .slice A25 n26 c27), (4, vi (txE v ins outs lt)), (5, pt p36 0), (32, .agg (by8 (txH v ins outs lt)).toArray), (33, vi (txE v ins outs lt))] ?_
   obtain ⟨w40, r41, H42⟩ := H39.stA (P := Try.prog) (o := 0) (vs := by8 (txH v ins outs lt)) (ty := 51) (m := 32) 2 rfl (by kernel_rfl) (by rw [by8_length, txH_length]) (Nat.le_of_eq (by rw [Nat.zero_add]; exact ((show (by8 (List.replicate 32 0)).length = 32 from by rw [by8_length]; rfl)).symm)) (by8_one _)
   rw [st_whole (by rw [by8_length]; rfl)] at H42
   refine GL.u 7 r41 [(1, pt p3 0), (3, .slice A25 n26 c27), (4, vi (txE v ins outs lt)), (5, pt p36 0), (33, vi (txE v ins outs lt))] ?_
   refine GL.r 8 1 [(1, pt p3 0), (3, .slice A25 n26 c27), (4, vi (txE v ins outs lt)), (5, pt p36 0), (6, vi (txE v ins outs lt))] ?_
   refine GL.q hK32 ?_
   refine G.sr fun K43 hK44 => ?_
   refine GL.s 1 (H42.ldA (o := 0) (ty := 26) (m := 4) (sub := [vw v, .slice A ins.length ca, .slice B outs.length cb, vw lt]) 0 rfl (by kernel_rfl) rfl rfl) [(1, pt p3 0), (3, .slice A25 n26 c27), (4, vi (txE v ins outs lt)), (5, pt p36 0), (6, vi (txE v ins outs lt)), (34, .agg #[vw v, .slice A ins.length ca, .slice B outs.length cb, vw lt])] ?_
   refine GL.call (j := 2) (Ref_calls v ins A ca outs B cb lt w40 hv hlt (hIns.hp H42) (oks_mid hI H42) (hOuts.hp H42) (oksO_mid hO H42) hni hno (by omega) (by omega)) (by kernel_rfl) rfl (fun e_ w49 hR => ?_)
   obtain ⟨A45, c46, A47, c48, rfl, H51⟩ := hR
   have H50 : Hp w [] [.blk p3 [vw v, .slice A ins.length ca, .slice B outs.length cb, vw lt] 26, .row A25 n26 c27 5 1 (by8 (txO v ins outs lt)), .blk p36 (by8 (txH v ins outs lt)) 51, .row A45 ins.length c46 89 35 (insR ins), .row A47 outs.length c48 91 2 (outsR outs)] w49 := H42.callNew H51
   refine ⟨_, rfl, [1, 3, 4, 5, 6, 35], [(1, pt p3 0), (3, .slice A25 n26 c27), (4, vi (txE v ins outs lt)), (5, pt p36 0), (6, vi (txE v ins outs lt)), (35, .agg #[vu v, vu lt, .slice A45 ins.length c46, .slice A47 outs.length c48])], by kernel_rfl, ?_⟩
   refine GL.call (j := 3) (RWrite_calls v ins A45 c46 outs A47 c48 lt w49 hv hlt (H50.rdRowN 3 rfl) (fun x_ h_ => have q_ := hI x_ h_; ⟨q_.1, q_.2.1, q_.2.2.1, hF.2.2.1 x_ h_⟩) (H50.rdRowN 4 rfl) (fun x_ h_ => ⟨(hO x_ h_).1, hF.2.2.2 x_ h_⟩) hF.1 hF.2.1) (by kernel_rfl) rfl (fun e_ w55 hR => ?_)
   obtain ⟨A52, n53, c54, rfl, H57⟩ := hR
   have H56 : Hp w [] [.blk p3 [vw v, .slice A ins.length ca, .slice B outs.length cb, vw lt] 26, .row A25 n26 c27 5 1 (by8 (txO v ins outs lt)), .blk p36 (by8 (txH v ins outs lt)) 51, .row A45 ins.length c46 89 35 (insR ins), .row A47 outs.length c48 91 2 (outsR outs), .row A52 n53 c54 5 1 (by8 (txB v ins outs lt))] w55 := H50.callNew H57
   have hlA52 := (H56.rowLe 5 rfl).2.1
   rw [by8_length, Nat.mul_one] at hlA52
   refine ⟨_, rfl, [1, 3, 4, 5, 6, 36], [(1, pt p3 0), (3, .slice A25 n26 c27), (4, vi (txE v ins outs lt)), (5, pt p36 0), (6, vi (txE v ins outs lt)), (36, .slice A52 n53 c54)], by kernel_rfl, ?_⟩
   refine GL.r 4 1 [(1, pt p3 0), (3, .slice A25 n26 c27), (4, vi (txE v ins outs lt)), (5, pt p36 0), (6, vi (txE v ins outs lt)), (7, .slice A52 n53 c54)] ?_
   refine GL.q hK44 ?_
   refine G.sr fun K58 hK59 => ?_
   refine GL.r 1 1 [(1, pt p3 0), (3, .slice A25 n26 c27), (4, vi (txE v ins outs lt)), (5, pt p36 0), (6, vi (txE v ins outs lt)), (7, .slice A52 n53 c54), (8, li 0)] ?_
   refine GL.q hK59 ?_
   refine G.seqJ (X := Unit) (fun _ => [(1, pt p3 0), (3, .slice A25 n26 c27), (4, vi (txE v ins outs lt)), (5, pt p36 0), (6, vi (txE v ins outs lt)), (7, .slice A52 n53 c54), (8, li 0), (9, .bool (decide (lgP ins outs 0 0)))]) (fun _ w_ => (True) ∧ Hp w [] [.blk p3 [vw v, .slice A ins.length ca, .slice B outs.length cb, vw lt] 26, .row A25 n26 c27 5 1 (by8 (txO v ins outs lt)), .blk p36 (by8 (txH v ins outs lt)) 51, .row A45 ins.length c46 89 35 (insR ins), .row A47 outs.length c48 91 2 (outsR outs), .row A52 n53 c54 5 1 (by8 (txB v ins outs lt))] w_) (fun J60 K61 hK62 => ?_) ?_
   · skip
     refine G.region ?_
     refine GL.r 1 1 [(1, pt p3 0), (3, .slice A25 n26 c27), (4, vi (txE v ins outs lt)), (5, pt p36 0), (6, vi (txE v ins outs lt)), (7, .slice A52 n53 c54), (8, li 0), (37, pt p3 1)] ?_
     refine GL.s 2 (H56.ld (o := 1) (ty := 23) (v := .slice A ins.length ca) 0 rfl (by kernel_rfl) rfl) [(1, pt p3 0), (3, .slice A25 n26 c27), (4, vi (txE v ins outs lt)), (5, pt p36 0), (6, vi (txE v ins outs lt)), (7, .slice A52 n53 c54), (8, li 0), (38, .slice A ins.length ca)] ?_
     refine GL.r 5 3 [(1, pt p3 0), (3, .slice A25 n26 c27), (4, vi (txE v ins outs lt)), (5, pt p36 0), (6, vi (txE v ins outs lt)), (7, .slice A52 n53 c54), (8, li 0), (41, .bool (decide (64 < (ins.length : Int))))] ?_
     cases hb63 : (decide (64 < (ins.length : Int)))
     · skip
       have hb63f := of_decide_eq_false hb63
       refine GL.r 6 1 [(1, pt p3 0), (3, .slice A25 n26 c27), (4, vi (txE v ins outs lt)), (5, pt p36 0), (6, vi (txE v ins outs lt)), (7, .slice A52 n53 c54), (8, li 0), (41, .bool false), (42, pt p3 2)] ?_
       refine GL.s 7 (H56.ld (o := 2) (ty := 24) (v := .slice B outs.length cb) 0 rfl (by kernel_rfl) rfl) [(1, pt p3 0), (3, .slice A25 n26 c27), (4, vi (txE v ins outs lt)), (5, pt p36 0), (6, vi (txE v ins outs lt)), (7, .slice A52 n53 c54), (8, li 0), (41, .bool false), (43, .slice B outs.length cb)] ?_
       refine GL.r 11 4 [(1, pt p3 0), (3, .slice A25 n26 c27), (4, vi (txE v ins outs lt)), (5, pt p36 0), (6, vi (txE v ins outs lt)), (7, .slice A52 n53 c54), (8, li 0), (9, .bool (decide (64 < (outs.length : Int))))] ?_
       refine GL.q hK62 ?_
       have hlz64 : (decide (lgP ins outs 0 0)) = (decide (64 < (outs.length : Int))) := by rw [lg_zero]; rw [decide_eq_decide]; omega
       refine G.fit [1, 3, 4, 5, 6, 7, 8, 9] (M' := [(1, pt p3 0), (3, .slice A25 n26 c27), (4, vi (txE v ins outs lt)), (5, pt p36 0), (6, vi (txE v ins outs lt)), (7, .slice A52 n53 c54), (8, li 0), (9, .bool (decide (64 < (outs.length : Int))))]) (by kernel_rfl) ?_
       refine G.eq (M' := [(1, pt p3 0), (3, .slice A25 n26 c27), (4, vi (txE v ins outs lt)), (5, pt p36 0), (6, vi (txE v ins outs lt)), (7, .slice A52 n53 c54), (8, li 0), (9, .bool (decide (lgP ins outs 0 0)))]) (by rw [hlz64]) ?_
       exact J60 () _ ⟨trivial, H56⟩
     · skip
       have hb63f := of_decide_eq_true hb63
       refine GL.r 11 6 [(1, pt p3 0), (3, .slice A25 n26 c27), (4, vi (txE v ins outs lt)), (5, pt p36 0), (6, vi (txE v ins outs lt)), (7, .slice A52 n53 c54), (8, li 0), (9, .bool true)] ?_
       refine GL.q hK62 ?_
       have hlz65 : (decide (lgP ins outs 0 0)) = true := by rw [lg_zero]; exact decide_eq_true (by omega)
       refine G.fit [1, 3, 4, 5, 6, 7, 8, 9] (M' := [(1, pt p3 0), (3, .slice A25 n26 c27), (4, vi (txE v ins outs lt)), (5, pt p36 0), (6, vi (txE v ins outs lt)), (7, .slice A52 n53 c54), (8, li 0), (9, .bool true)]) (by kernel_rfl) ?_
       refine G.eq (M' := [(1, pt p3 0), (3, .slice A25 n26 c27), (4, vi (txE v ins outs lt)), (5, pt p36 0), (6, vi (txE v ins outs lt)), (7, .slice A52 n53 c54), (8, li 0), (9, .bool (decide (lgP ins outs 0 0)))]) (by rw [hlz65]) ?_
       exact J60 () _ ⟨trivial, H56⟩
   · skip
     rintro _ w66 ⟨hi67, H68⟩
     refine G.eq (M' := [(1, pt p3 0), (3, .slice A25 n26 c27), (4, vi (txE v ins outs lt)), (5, pt p36 0), (6, vi (txE v ins outs lt)), (7, .slice A52 n53 c54), (8, li 0), (9, .bool (decide (lgP ins outs 0 0)))]) rfl ?_
     refine G.seqK fun K69 hK70 => ?_
     refine G.sr fun K71 hK72 => ?_
     refine GL.r 1 1 [(1, pt p3 0), (3, .slice A25 n26 c27), (4, vi (txE v ins outs lt)), (5, pt p36 0), (6, vi (txE v ins outs lt)), (7, .slice A52 n53 c54), (8, li 0), (9, .bool (decide (lgP ins outs 0 0))), (47, pt p3 1)] ?_
     refine GL.s 2 (H68.ld (o := 1) (ty := 23) (v := .slice A ins.length ca) 0 rfl (by kernel_rfl) rfl) [(1, pt p3 0), (3, .slice A25 n26 c27), (4, vi (txE v ins outs lt)), (5, pt p36 0), (6, vi (txE v ins outs lt)), (7, .slice A52 n53 c54), (8, li 0), (9, .bool (decide (lgP ins outs 0 0))), (48, .slice A ins.length ca)] ?_
     refine GL.r 4 2 [(1, pt p3 0), (3, .slice A25 n26 c27), (4, vi (txE v ins outs lt)), (5, pt p36 0), (6, vi (txE v ins outs lt)), (7, .slice A52 n53 c54), (8, li 0), (9, .bool (decide (lgP ins outs 0 0))), (48, .slice A ins.length ca), (49, vi ins.length), (50, li 0)] ?_
     refine GL.q hK72 ?_
     refine G.block ?_
     refine G.fit [1, 3, 4, 5, 6, 7, 8, 9, 48, 49, 50] (M' := [(1, pt p3 0), (3, .slice A25 n26 c27), (4, vi (txE v ins outs lt)), (5, pt p36 0), (6, vi (txE v ins outs lt)), (7, .slice A52 n53 c54), (8, li 0), (9, .bool (decide (lgP ins outs 0 0))), (48, .slice A ins.length ca), (49, vi ins.length), (50, li 0)]) (by kernel_rfl) ?_
     refine G.loop (X := Nat) (fun i => [(1, pt p3 0), (3, .slice A25 n26 c27), (4, vi (txE v ins outs lt)), (5, pt p36 0), (6, vi (txE v ins outs lt)), (7, .slice A52 n53 c54), (8, li 0), (9, .bool (decide (lgP ins outs i 0))), (48, .slice A ins.length ca), (49, vi ins.length), (50, vi i)]) (fun i w_ => (i ≤ ins.length) ∧ Hp w [] [.blk p3 [vw v, .slice A ins.length ca, .slice B outs.length cb, vw lt] 26, .row A25 n26 c27 5 1 (by8 (txO v ins outs lt)), .blk p36 (by8 (txH v ins outs lt)) 51, .row A45 ins.length c46 89 35 (insR ins), .row A47 outs.length c48 91 2 (outsR outs), .row A52 n53 c54 5 1 (by8 (txB v ins outs lt))] w_) (fun i => ins.length - i) 0 [1, 3, 4, 5, 6, 7, 8, 9, 48, 49, 50] (by kernel_rfl) ⟨Nat.zero_le _, H68⟩ ?_
     rintro i w73 ⟨hi74, H75⟩
     refine G.eq (M' := [(1, pt p3 0), (3, .slice A25 n26 c27), (4, vi (txE v ins outs lt)), (5, pt p36 0), (6, vi (txE v ins outs lt)), (7, .slice A52 n53 c54), (8, li 0), (9, .bool (decide (lgP ins outs i 0))), (48, .slice A ins.length ca), (49, vi ins.length), (50, vi i)]) rfl ?_
     have hil := hi74
     refine G.sr fun K76 hK77 => ?_
     refine GL.r 1 1 [(1, pt p3 0), (3, .slice A25 n26 c27), (4, vi (txE v ins outs lt)), (5, pt p36 0), (6, vi (txE v ins outs lt)), (7, .slice A52 n53 c54), (8, li 0), (9, .bool (decide (lgP ins outs i 0))), (48, .slice A ins.length ca), (49, vi ins.length), (50, vi i), (51, .bool (decide ((i : Int) < (ins.length : Int))))] ?_
     refine GL.q hK77 ?_
     refine G.seqK fun K78 hK79 => ?_
     cases hb80 : (decide ((i : Int) < (ins.length : Int)))
     · skip
       have hb80f := of_decide_eq_false hb80
       obtain rfl : i = ins.length := by omega
       refine G.no rfl ?_
       refine G.exitK hK70 (fun _ _ h => h) ?_
       refine G.seqK fun K81 hK82 => ?_
       refine G.sr fun K83 hK84 => ?_
       refine GL.r 1 1 [(1, pt p3 0), (3, .slice A25 n26 c27), (4, vi (txE v ins outs lt)), (5, pt p36 0), (6, vi (txE v ins outs lt)), (7, .slice A52 n53 c54), (8, li 0), (9, .bool (decide (lgP ins outs ins.length 0))), (62, pt p3 2)] ?_
       refine GL.s 2 (H75.ld (o := 2) (ty := 24) (v := .slice B outs.length cb) 0 rfl (by kernel_rfl) rfl) [(1, pt p3 0), (3, .slice A25 n26 c27), (4, vi (txE v ins outs lt)), (5, pt p36 0), (6, vi (txE v ins outs lt)), (7, .slice A52 n53 c54), (8, li 0), (9, .bool (decide (lgP ins outs ins.length 0))), (63, .slice B outs.length cb)] ?_
       refine GL.r 4 2 [(1, pt p3 0), (3, .slice A25 n26 c27), (4, vi (txE v ins outs lt)), (5, pt p36 0), (6, vi (txE v ins outs lt)), (7, .slice A52 n53 c54), (8, li 0), (9, .bool (decide (lgP ins outs ins.length 0))), (63, .slice B outs.length cb), (64, vi outs.length), (65, li 0)] ?_
       refine GL.q hK84 ?_
       refine G.block ?_
       refine G.fit [1, 3, 4, 5, 6, 7, 8, 9, 63, 64, 65] (M' := [(1, pt p3 0), (3, .slice A25 n26 c27), (4, vi (txE v ins outs lt)), (5, pt p36 0), (6, vi (txE v ins outs lt)), (7, .slice A52 n53 c54), (8, li 0), (9, .bool (decide (lgP ins outs ins.length 0))), (63, .slice B outs.length cb), (64, vi outs.length), (65, li 0)]) (by kernel_rfl) ?_
       refine G.eq (M' := [(1, pt p3 0), (3, .slice A25 n26 c27), (4, vi (txE v ins outs lt)), (5, pt p36 0), (6, vi (txE v ins outs lt)), (7, .slice A52 n53 c54), (8, vi (wnt outs 0)), (9, .bool (decide (lgP ins outs ins.length 0))), (63, .slice B outs.length cb), (64, vi outs.length), (65, li 0)]) (by rfl) ?_
       refine G.loop (X := Nat) (fun j => [(1, pt p3 0), (3, .slice A25 n26 c27), (4, vi (txE v ins outs lt)), (5, pt p36 0), (6, vi (txE v ins outs lt)), (7, .slice A52 n53 c54), (8, vi (wnt outs j)), (9, .bool (decide (lgP ins outs ins.length j))), (63, .slice B outs.length cb), (64, vi outs.length), (65, vi j)]) (fun j w_ => (j ≤ outs.length) ∧ Hp w [] [.blk p3 [vw v, .slice A ins.length ca, .slice B outs.length cb, vw lt] 26, .row A25 n26 c27 5 1 (by8 (txO v ins outs lt)), .blk p36 (by8 (txH v ins outs lt)) 51, .row A45 ins.length c46 89 35 (insR ins), .row A47 outs.length c48 91 2 (outsR outs), .row A52 n53 c54 5 1 (by8 (txB v ins outs lt))] w_) (fun j => outs.length - j) 0 [1, 3, 4, 5, 6, 7, 8, 9, 63, 64, 65] (by kernel_rfl) ⟨Nat.zero_le _, H75⟩ ?_
       rintro j w85 ⟨hi86, H87⟩
       refine G.eq (M' := [(1, pt p3 0), (3, .slice A25 n26 c27), (4, vi (txE v ins outs lt)), (5, pt p36 0), (6, vi (txE v ins outs lt)), (7, .slice A52 n53 c54), (8, vi (wnt outs j)), (9, .bool (decide (lgP ins outs ins.length j))), (63, .slice B outs.length cb), (64, vi outs.length), (65, vi j)]) rfl ?_
       have hjl := hi86
       refine G.sr fun K88 hK89 => ?_
       refine GL.r 1 1 [(1, pt p3 0), (3, .slice A25 n26 c27), (4, vi (txE v ins outs lt)), (5, pt p36 0), (6, vi (txE v ins outs lt)), (7, .slice A52 n53 c54), (8, vi (wnt outs j)), (9, .bool (decide (lgP ins outs ins.length j))), (63, .slice B outs.length cb), (64, vi outs.length), (65, vi j), (66, .bool (decide ((j : Int) < (outs.length : Int))))] ?_
       refine GL.q hK89 ?_
       refine G.seqK fun K90 hK91 => ?_
       cases hb92 : (decide ((j : Int) < (outs.length : Int)))
       · skip
         have hb92f := of_decide_eq_false hb92
         obtain rfl : j = outs.length := by omega
         refine G.no rfl ?_
         refine G.exitK hK82 (fun _ _ h => h) ?_
         refine G.seqK fun K93 hK94 => ?_
         refine G.block ?_
         refine G.sr fun K95 hK96 => ?_
         refine GL.r 1 1 [(1, pt p3 0), (3, .slice A25 n26 c27), (4, vi (txE v ins outs lt)), (5, pt p36 0), (6, vi (txE v ins outs lt)), (7, .slice A52 n53 c54), (8, vi (wnt outs outs.length)), (9, .bool (decide (lgP ins outs ins.length outs.length))), (81, pt p3 1)] ?_
         refine GL.s 2 (H87.ld (o := 1) (ty := 23) (v := .slice A ins.length ca) 0 rfl (by kernel_rfl) rfl) [(1, pt p3 0), (3, .slice A25 n26 c27), (4, vi (txE v ins outs lt)), (5, pt p36 0), (6, vi (txE v ins outs lt)), (7, .slice A52 n53 c54), (8, vi (wnt outs outs.length)), (9, .bool (decide (lgP ins outs ins.length outs.length))), (82, .slice A ins.length ca)] ?_
         refine GL.r 5 3 [(1, pt p3 0), (3, .slice A25 n26 c27), (4, vi (txE v ins outs lt)), (5, pt p36 0), (6, vi (txE v ins outs lt)), (7, .slice A52 n53 c54), (8, vi (wnt outs outs.length)), (9, .bool (decide (lgP ins outs ins.length outs.length))), (85, .bool ((ins.length : Int) == 0))] ?_
         cases hb97 : ((ins.length : Int) == 0)
         · skip
           have hb97f := ne_of_beq_false hb97
           refine GL.r 6 1 [(1, pt p3 0), (3, .slice A25 n26 c27), (4, vi (txE v ins outs lt)), (5, pt p36 0), (6, vi (txE v ins outs lt)), (7, .slice A52 n53 c54), (8, vi (wnt outs outs.length)), (9, .bool (decide (lgP ins outs ins.length outs.length))), (85, .bool false), (86, pt p3 2)] ?_
           refine GL.s 7 (H87.ld (o := 2) (ty := 24) (v := .slice B outs.length cb) 0 rfl (by kernel_rfl) rfl) [(1, pt p3 0), (3, .slice A25 n26 c27), (4, vi (txE v ins outs lt)), (5, pt p36 0), (6, vi (txE v ins outs lt)), (7, .slice A52 n53 c54), (8, vi (wnt outs outs.length)), (9, .bool (decide (lgP ins outs ins.length outs.length))), (85, .bool false), (87, .slice B outs.length cb)] ?_
           refine GL.r 11 4 [(1, pt p3 0), (3, .slice A25 n26 c27), (4, vi (txE v ins outs lt)), (5, pt p36 0), (6, vi (txE v ins outs lt)), (7, .slice A52 n53 c54), (8, vi (wnt outs outs.length)), (9, .bool (decide (lgP ins outs ins.length outs.length))), (80, .bool ((outs.length : Int) == 0))] ?_
           refine GL.q hK96 ?_
           cases hb98 : ((outs.length : Int) == 0)
           · skip
             have hb98f := ne_of_beq_false hb98
             refine G.no rfl ?_
             refine G.sr fun K99 hK100 => ?_
             refine GL.r 2 2 [(1, pt p3 0), (3, .slice A25 n26 c27), (4, vi (txE v ins outs lt)), (5, pt p36 0), (6, vi (txE v ins outs lt)), (7, .slice A52 n53 c54), (8, vi (wnt outs outs.length)), (93, .bool (decide (lgP ins outs ins.length outs.length)))] ?_
             cases hb101 : (decide (lgP ins outs ins.length outs.length))
             · skip
               have hb101f := of_decide_eq_false hb101
               refine GL.r 7 5 [(1, pt p3 0), (3, .slice A25 n26 c27), (4, vi (txE v ins outs lt)), (5, pt p36 0), (6, vi (txE v ins outs lt)), (7, .slice A52 n53 c54), (8, vi (wnt outs outs.length)), (98, .bool (decide (4096 < (n53 : Int))))] ?_
               cases hb102 : (decide (4096 < (n53 : Int)))
               · skip
                 have hb102f := of_decide_eq_false hb102
                 refine GL.r 12 5 [(1, pt p3 0), (3, .slice A25 n26 c27), (4, vi (txE v ins outs lt)), (5, pt p36 0), (6, vi (txE v ins outs lt)), (7, .slice A52 n53 c54), (8, vi (wnt outs outs.length)), (91, .bool ((n53 : Int) == 64))] ?_
                 refine GL.q hK100 ?_
                 cases hb103 : ((n53 : Int) == 64)
                 · skip
                   have hb103f := ne_of_beq_false hb103
                   refine G.no rfl ?_
                   refine G.skipK hK94 (fun _ _ h => h) ?_
                   refine G.seqK fun K104 hK105 => ?_
                   refine G.sr fun K106 hK107 => ?_
                   refine GL.r 4 4 [(1, pt p3 0), (3, .slice A25 n26 c27), (4, vi (txE v ins outs lt)), (5, pt p36 0), (6, vi (txE v ins outs lt)), (7, .slice A52 n53 c54), (8, vi (wnt outs outs.length)), (106, .bool ((((txE v ins outs lt) : Nat) : Int) != (((wnt outs outs.length) : Nat) : Int)))] ?_
                   have hb108 : ((((txE v ins outs lt) : Nat) : Int) != (((wnt outs outs.length) : Nat) : Int)) = false := by rw [show txE v ins outs lt = _ from txE_w (by omega) (of_decide_eq_false hb101) (by omega)]; first | rfl | exact bne_self_eq_false _
                   rw [hb108]
                   refine GL.r 9 5 [(1, pt p3 0), (3, .slice A25 n26 c27), (4, vi (txE v ins outs lt)), (5, pt p36 0), (6, vi (txE v ins outs lt)), (7, .slice A52 n53 c54), (8, vi (wnt outs outs.length)), (111, .bool ((((txE v ins outs lt) : Nat) : Int) != (((wnt outs outs.length) : Nat) : Int)))] ?_
                   have hb109 : ((((txE v ins outs lt) : Nat) : Int) != (((wnt outs outs.length) : Nat) : Int)) = false := by assumption
                   rw [hb109]
                   refine GL.r 12 3 [(1, pt p3 0), (3, .slice A25 n26 c27), (4, vi (txE v ins outs lt)), (5, pt p36 0), (6, vi (txE v ins outs lt)), (7, .slice A52 n53 c54), (8, vi (wnt outs outs.length)), (114, .bool ((((wnt outs outs.length) : Nat) : Int) != 0))] ?_
                   refine GL.q hK107 ?_
                   cases hb110 : ((((wnt outs outs.length) : Nat) : Int) != 0)
                   · skip
                     have hb110f : (((wnt outs outs.length) : Nat) : Int) = 0 := bne_eq_false_iff_eq.1 hb110
                     refine G.no rfl ?_
                     refine G.skipK hK105 (fun _ _ h => h) ?_
                     refine G.sr fun K111 hK112 => ?_
                     refine GL.r 1 1 [(1, pt p3 0), (3, .slice A25 n26 c27), (5, pt p36 0), (7, .slice A52 n53 c54), (133, .slice A25 n26 c27)] ?_
                     refine GL.call (j := 2) (TParse_calls (txO v ins outs lt) A25 n26 c27 w85 (H87.rdRow 1 rfl) (hlA25.symm) (Nat.le_trans (txO_le _ _ _ _) (by decide))) (by kernel_rfl) rfl (fun e_ w113 hR => ?_)
                     obtain ⟨v1, ins1, A1_, c1_, outs1, B1_, d1_, lt1, G1_, K1_, err1, rfl, H115, hI1, hO1, hp1⟩ := hR
                     have H114 : Hp w [] [.blk p3 [vw v, .slice A ins.length ca, .slice B outs.length cb, vw lt] 26, .row A25 n26 c27 5 1 (by8 (txO v ins outs lt)), .blk p36 (by8 (txH v ins outs lt)) 51, .row A45 ins.length c46 89 35 (insR ins), .row A47 outs.length c48 91 2 (outsR outs), .row A52 n53 c54 5 1 (by8 (txB v ins outs lt)), .row A1_ ins1.length c1_ 53 35 (insC ins1), .row B1_ outs1.length d1_ 40 2 (outsC outs1), .bag G1_, .bag K1_] w113 := H87.callNew H115
                     have hE : txE v ins outs lt = 0 := by rw [show txE v ins outs lt = _ from txE_w (by omega) (of_decide_eq_false hb101) (by omega)]; omega
                     have hV := vtx_of hv hlt hI hO hE
                     have hOB : txO v ins outs lt = txB v ins outs lt := if_pos hE
                     obtain ⟨he1, hX1, hV1⟩ : err1 = 0 ∧ txO v ins outs lt = txB v1 ins1 outs1 lt1 ∧ VTx v1 ins1 outs1 lt1 := by
                       rcases hp1 with h | ⟨_, _, _, _, _, h⟩
                       · exact h
                       · exact absurd hOB (h _ _ _ _ hV)
                     obtain ⟨_, hL1, hL2⟩ := tx_pre hV1 hV (S := []) (T := []) (by rw [← hX1, hOB])
                     refine ⟨_, rfl, [1, 3, 5, 7, 134], [(1, pt p3 0), (3, .slice A25 n26 c27), (5, pt p36 0), (7, .slice A52 n53 c54), (134, .tuple #[.agg #[vw v1, .slice A1_ ins1.length c1_, .slice B1_ outs1.length d1_, vw lt1], vi err1])], by kernel_rfl, ?_⟩
                     refine GL.r 5 3 [(1, pt p3 0), (3, .slice A25 n26 c27), (5, pt p36 0), (7, .slice A52 n53 c54), (135, .agg #[vw v1, .slice A1_ ins1.length c1_, .slice B1_ outs1.length d1_, vw lt1]), (136, vi err1)] ?_
                     obtain ⟨p116, w117, r118, H119⟩ := H114.alloc (P := Try.prog) 26 [lw 0, .slice none 0 0, .slice none 0 0, lw 0] (by kernel_rfl)
                     refine GL.s 6 (r118) [(1, pt p3 0), (3, .slice A25 n26 c27), (5, pt p36 0), (7, .slice A52 n53 c54), (14, pt p116 0), (135, .agg #[vw v1, .slice A1_ ins1.length c1_, .slice B1_ outs1.length d1_, vw lt1]), (136, vi err1)] ?_
                     obtain ⟨w120, r121, H122⟩ := H119.stA (P := Try.prog) (o := 0) (vs := [vw v1, .slice A1_ ins1.length c1_, .slice B1_ outs1.length d1_, vw lt1]) (ty := 26) (m := 4) 10 rfl (by kernel_rfl) rfl (by simp) (by simp [Value.oneCell'])
                     refine GL.u 7 r121 [(1, pt p3 0), (3, .slice A25 n26 c27), (5, pt p36 0), (7, .slice A52 n53 c54), (14, pt p116 0), (136, vi err1)] ?_
                     refine GL.r 8 1 [(1, pt p3 0), (3, .slice A25 n26 c27), (5, pt p36 0), (7, .slice A52 n53 c54), (14, pt p116 0), (15, vi err1)] ?_
                     refine GL.q hK112 ?_
                     refine G.seqK fun K123 hK124 => ?_
                     refine G.heldP (Hp w [] [.blk p3 [vw v, .slice A ins.length ca, .slice B outs.length cb, vw lt] 26, .row A25 n26 c27 5 1 (by8 (txO v ins outs lt)), .blk p36 (by8 (txH v ins outs lt)) 51, .row A45 ins.length c46 89 35 (insR ins), .row A47 outs.length c48 91 2 (outsR outs), .row A52 n53 c54 5 1 (by8 (txB v ins outs lt)), .row A1_ ins1.length c1_ 53 35 (insC ins1), .row B1_ outs1.length d1_ 40 2 (outsC outs1), .bag G1_, .bag K1_, .blk p116 [vw v1, .slice A1_ ins1.length c1_, .slice B1_ outs1.length d1_, vw lt1] 26]) (by kernel_rfl) (by kernel_rfl) (fun c_ a_ d_ v_ w_ h_ => hPan c_ a_ d_ v_ w_ h_) ?_
                     have H125 := H122.drew
                     generalize ({ w120 with drawn := w120.drawn + 1 } : World) = w126 at H125 ⊢
                     have hS127 : Hp w [] [.blk p3 [vw v, .slice A ins.length ca, .slice B outs.length cb, vw lt] 26, .row A25 n26 c27 5 1 (by8 (txO v ins outs lt)), .blk p36 (by8 (txH v ins outs lt)) 51, .row A45 ins.length c46 89 35 (insR ins), .row A47 outs.length c48 91 2 (outsR outs), .row A52 n53 c54 5 1 (by8 (txB v ins outs lt)), .row A1_ ins1.length c1_ 53 35 (insC ins1), .row B1_ outs1.length d1_ 40 2 (outsC outs1), .bag G1_, .bag K1_, .blk p116 [vw v1, .slice A1_ ins1.length c1_, .slice B1_ outs1.length d1_, vw lt1] 26] w126 := H125.sub (List.Sublist.cons_cons _ (List.Sublist.cons_cons _ (List.Sublist.cons_cons _ (List.Sublist.cons_cons _ (List.Sublist.cons_cons _ (List.Sublist.cons_cons _ (List.Sublist.cons_cons _ (List.Sublist.cons_cons _ (List.Sublist.cons_cons _ (List.Sublist.cons_cons _ (List.Sublist.cons_cons _ (List.Sublist.slnil))))))))))))
                     refine GP.r [0] [(1, pt p3 0), (5, pt p36 0), (7, .slice A52 n53 c54), (14, pt p116 0), (15, vi err1), (137, .slice A25 n26 c27)] [0] hS127 ?_
                     refine GP.s 1 (fun w_ H_ => run_toStr (P := Try.prog) (src := 38) (dst := 9) (A := A25) (bs := (txO v ins outs lt)) (n := n26) (c := c27) (by kernel_rfl) (by kernel_rfl) (H_.rdRow 1 rfl) (hlA25.symm)) [(1, pt p3 0), (5, pt p36 0), (7, .slice A52 n53 c54), (14, pt p116 0), (15, vi err1), (138, .string (strOf (txO v ins outs lt)))] hS127 ?_
                     refine GP.r [2] [(1, pt p3 0), (5, pt p36 0), (7, .slice A52 n53 c54), (14, pt p116 0), (15, vi err1), (138, .string (strOf (txO v ins outs lt))), (139, .slice A52 n53 c54)] [0, 1, 2] hS127 ?_
                     refine GP.s 3 (fun w_ H_ => run_toStr (P := Try.prog) (src := 38) (dst := 9) (A := A52) (bs := (txB v ins outs lt)) (n := n53) (c := c54) (by kernel_rfl) (by kernel_rfl) (H_.rdRow 5 rfl) (hlA52.symm)) [(1, pt p3 0), (5, pt p36 0), (7, .slice A52 n53 c54), (14, pt p116 0), (15, vi err1), (138, .string (strOf (txO v ins outs lt))), (140, .string (strOf (txB v ins outs lt)))] hS127 ?_
                     refine GP.s 4 (fun w_ H_ => run_str_eql (P := Try.prog) (t := 9) (txO v ins outs lt) (txB v ins outs lt) _) [(1, pt p3 0), (5, pt p36 0), (7, .slice A52 n53 c54), (14, pt p116 0), (15, vi err1), (141, .bool ((txO v ins outs lt) == (txB v ins outs lt)))] hS127 ?_
                     refine GP.r [5] [(1, pt p3 0), (5, pt p36 0), (7, .slice A52 n53 c54), (14, pt p116 0), (15, vi err1), (142, .bool ((txO v ins outs lt) == (txB v ins outs lt)))] [0, 1, 2, 3, 4, 5] hS127 ?_
                     have hb128 : ((txO v ins outs lt) == (txB v ins outs lt)) = true := by rw [txO, if_pos hE]; exact beq_self_eq_true _
                     rw [hb128]
                     refine GP.s 6 (fun w_ H_ => H_.ldA (o := 0) (ty := 51) (m := 32) (sub := by8 (txH v ins outs lt)) 2 rfl (by kernel_rfl) (sub_whole (by rw [by8_length, txH_length])) (by rw [by8_length, txH_length])) [(1, pt p3 0), (7, .slice A52 n53 c54), (14, pt p116 0), (15, vi err1), (142, .bool true), (143, .agg (by8 (txH v ins outs lt)).toArray)] hS127 ?_
                     refine GP.r [7] [(1, pt p3 0), (7, .slice A52 n53 c54), (14, pt p116 0), (15, vi err1), (142, .bool true), (143, .agg (by8 (txH v ins outs lt)).toArray), (144, .slice A52 n53 c54)] [0, 1, 2, 3, 4, 5, 6, 7] hS127 ?_
                     refine GP.call 8 (RefDouble_calls A52 n53 c54 (txB v ins outs lt) w126 (H125.rdRow 5 rfl) (hlA52.symm) ((by omega))) (by kernel_rfl) (by kernel_rfl) (fun e_ w129 hR => ?_)
                     obtain ⟨rfl, H131⟩ := hR
                     have H130 : Hp w [] [.blk p3 [vw v, .slice A ins.length ca, .slice B outs.length cb, vw lt] 26, .row A25 n26 c27 5 1 (by8 (txO v ins outs lt)), .blk p36 (by8 (txH v ins outs lt)) 51, .row A45 ins.length c46 89 35 (insR ins), .row A47 outs.length c48 91 2 (outsR outs), .row A52 n53 c54 5 1 (by8 (txB v ins outs lt)), .row A1_ ins1.length c1_ 53 35 (insC ins1), .row B1_ outs1.length d1_ 40 2 (outsC outs1), .bag G1_, .bag K1_, .blk p116 [vw v1, .slice A1_ ins1.length c1_, .slice B1_ outs1.length d1_, vw lt1] 26] w129 := H125.callNil H131
                     have hS132 : Hp w [] [.blk p3 [vw v, .slice A ins.length ca, .slice B outs.length cb, vw lt] 26, .row A25 n26 c27 5 1 (by8 (txO v ins outs lt)), .blk p36 (by8 (txH v ins outs lt)) 51, .row A45 ins.length c46 89 35 (insR ins), .row A47 outs.length c48 91 2 (outsR outs), .row A52 n53 c54 5 1 (by8 (txB v ins outs lt)), .row A1_ ins1.length c1_ 53 35 (insC ins1), .row B1_ outs1.length d1_ 40 2 (outsC outs1), .bag G1_, .bag K1_, .blk p116 [vw v1, .slice A1_ ins1.length c1_, .slice B1_ outs1.length d1_, vw lt1] 26] w129 := H130.sub (List.Sublist.cons_cons _ (List.Sublist.cons_cons _ (List.Sublist.cons_cons _ (List.Sublist.cons_cons _ (List.Sublist.cons_cons _ (List.Sublist.cons_cons _ (List.Sublist.cons_cons _ (List.Sublist.cons_cons _ (List.Sublist.cons_cons _ (List.Sublist.cons_cons _ (List.Sublist.cons_cons _ (List.Sublist.slnil))))))))))))
                     refine ⟨_, rfl, hS132, [1, 7, 14, 15, 142, 143, 145], [(1, pt p3 0), (7, .slice A52 n53 c54), (14, pt p116 0), (15, vi err1), (142, .bool true), (143, .agg (by8 (txH v ins outs lt)).toArray), (145, .agg (by8 (sha (sha (txB v ins outs lt)))).toArray)], by kernel_rfl, ?_⟩
                     refine GP.s 9 (fun w_ H_ => run_by8_eql (P := Try.prog) (t := 51) (n := 32) (x := (.tmp 143)) (y := (.tmp 145)) (by kernel_rfl) (txH v ins outs lt) (sha (sha (txB v ins outs lt))) (by rw [txH_length]) (by rw [sha_length]) _) [(1, pt p3 0), (7, .slice A52 n53 c54), (14, pt p116 0), (15, vi err1), (142, .bool true), (146, .bool (decide ((txH v ins outs lt) = (sha (sha (txB v ins outs lt))))))] hS132 ?_
                     refine GP.r [10, 11] [(1, pt p3 0), (7, .slice A52 n53 c54), (14, pt p116 0), (15, vi err1), (148, .bool (decide ((txH v ins outs lt) = (sha (sha (txB v ins outs lt))))))] [0, 1, 2, 3, 4, 5, 6, 7, 8, 9, 10, 11] hS132 ?_
                     have hb133 : (decide ((txH v ins outs lt) = (sha (sha (txB v ins outs lt))))) = true := decide_eq_true (by rw [txH, if_pos hE, txO, if_pos hE])
                     rw [hb133]
                     refine GP.r [12, 13, 14, 15] [(1, pt p3 0), (7, .slice A52 n53 c54), (14, pt p116 0), (152, .bool ((err1 : Int) == 0))] [0, 1, 2, 3, 4, 5, 6, 7, 8, 9, 10, 11, 12, 13, 14, 15] hS132 ?_
                     have hb134 : ((err1 : Int) == 0) = true := by rw [he1]; rfl
                     rw [hb134]
                     refine GP.s 16 (fun w_ H_ => H_.ldA (o := 0) (ty := 26) (m := 4) (sub := [vw v1, .slice A1_ ins1.length c1_, .slice B1_ outs1.length d1_, vw lt1]) 10 rfl (by kernel_rfl) rfl rfl) [(1, pt p3 0), (7, .slice A52 n53 c54), (14, pt p116 0), (152, .bool true), (153, .agg #[vw v1, .slice A1_ ins1.length c1_, .slice B1_ outs1.length d1_, vw lt1])] hS132 ?_
                     refine GP.r [20] [(1, pt p3 0), (14, pt p116 0), (152, .bool true), (153, .agg #[vw v1, .slice A1_ ins1.length c1_, .slice B1_ outs1.length d1_, vw lt1]), (157, .slice A52 n53 c54)] [0, 1, 2, 3, 4, 5, 6, 7, 8, 9, 10, 11, 12, 13, 14, 15, 16, 20] hS132 ?_
                     refine GP.s 21 (fun w_ H_ => run_toStr (P := Try.prog) (src := 38) (dst := 9) (A := A52) (bs := (txB v ins outs lt)) (n := n53) (c := c54) (by kernel_rfl) (by kernel_rfl) (H_.rdRow 5 rfl) (hlA52.symm)) [(1, pt p3 0), (14, pt p116 0), (152, .bool true), (153, .agg #[vw v1, .slice A1_ ins1.length c1_, .slice B1_ outs1.length d1_, vw lt1]), (158, .string (strOf (txB v ins outs lt)))] hS132 ?_
                     refine GP.call 17 (Ref_calls v1 ins1 A1_ c1_ outs1 B1_ d1_ lt1 w129 hV1.1.1 hV1.1.2.1 (H130.rdRowN 6 rfl) (fun x_ h_ => (hI1 x_ h_).ok H130 8 rfl) (H130.rdRowN 7 rfl) (fun x_ h_ => (hO1 x_ h_).ok H130 9 rfl) (Nat.le_trans hV1.2.1.2 (by decide)) (Nat.le_trans hV1.2.2.1.2 (by decide)) (Nat.le_trans hV1.2.1.2 (by decide)) (Nat.le_trans hV1.2.2.1.2 (by decide))) (by kernel_rfl) (by kernel_rfl) (fun e_ w139 hR => ?_)
                     obtain ⟨A135, c136, A137, c138, rfl, H141⟩ := hR
                     have H140 : Hp w [] [.blk p3 [vw v, .slice A ins.length ca, .slice B outs.length cb, vw lt] 26, .row A25 n26 c27 5 1 (by8 (txO v ins outs lt)), .blk p36 (by8 (txH v ins outs lt)) 51, .row A45 ins.length c46 89 35 (insR ins), .row A47 outs.length c48 91 2 (outsR outs), .row A52 n53 c54 5 1 (by8 (txB v ins outs lt)), .row A1_ ins1.length c1_ 53 35 (insC ins1), .row B1_ outs1.length d1_ 40 2 (outsC outs1), .bag G1_, .bag K1_, .blk p116 [vw v1, .slice A1_ ins1.length c1_, .slice B1_ outs1.length d1_, vw lt1] 26, .row A135 ins1.length c136 89 35 (insR ins1), .row A137 outs1.length c138 91 2 (outsR outs1)] w139 := H130.callNew H141
                     have hS142 : Hp w [] [.blk p3 [vw v, .slice A ins.length ca, .slice B outs.length cb, vw lt] 26, .row A25 n26 c27 5 1 (by8 (txO v ins outs lt)), .blk p36 (by8 (txH v ins outs lt)) 51, .row A45 ins.length c46 89 35 (insR ins), .row A47 outs.length c48 91 2 (outsR outs), .row A52 n53 c54 5 1 (by8 (txB v ins outs lt)), .row A1_ ins1.length c1_ 53 35 (insC ins1), .row B1_ outs1.length d1_ 40 2 (outsC outs1), .bag G1_, .bag K1_, .blk p116 [vw v1, .slice A1_ ins1.length c1_, .slice B1_ outs1.length d1_, vw lt1] 26] w139 := H140.sub (List.Sublist.cons_cons _ (List.Sublist.cons_cons _ (List.Sublist.cons_cons _ (List.Sublist.cons_cons _ (List.Sublist.cons_cons _ (List.Sublist.cons_cons _ (List.Sublist.cons_cons _ (List.Sublist.cons_cons _ (List.Sublist.cons_cons _ (List.Sublist.cons_cons _ (List.Sublist.cons_cons _ (List.Sublist.cons _ (List.Sublist.cons _ (List.Sublist.slnil))))))))))))))
                     refine ⟨_, rfl, hS142, [1, 14, 152, 154, 158], [(1, pt p3 0), (14, pt p116 0), (152, .bool true), (154, .agg #[vu v1, vu lt1, .slice A135 ins1.length c136, .slice A137 outs1.length c138]), (158, .string (strOf (txB v ins outs lt)))], by kernel_rfl, ?_⟩
                     refine GP.call 18 (RWrite_calls v1 ins1 A135 c136 outs1 A137 c138 lt1 w139 hV1.1.1 hV1.1.2.1 (H140.rdRowN 11 rfl) (fun x_ h_ => have q_ := hV1.1.2.2.1 x_ h_; ⟨q_.1, q_.2.1, q_.2.2.1, Nat.le_trans q_.2.2.2 (by decide)⟩) (H140.rdRowN 12 rfl) (fun x_ h_ => have q_ := hV1.1.2.2.2 x_ h_; ⟨q_.1, Nat.le_trans q_.2 (by decide)⟩) (Nat.le_trans hV1.2.1.2 (by decide)) (Nat.le_trans hV1.2.2.1.2 (by decide))) (by kernel_rfl) (by kernel_rfl) (fun e_ w146 hR => ?_)
                     obtain ⟨A143, n144, c145, rfl, H148⟩ := hR
                     have H147 : Hp w [] [.blk p3 [vw v, .slice A ins.length ca, .slice B outs.length cb, vw lt] 26, .row A25 n26 c27 5 1 (by8 (txO v ins outs lt)), .blk p36 (by8 (txH v ins outs lt)) 51, .row A45 ins.length c46 89 35 (insR ins), .row A47 outs.length c48 91 2 (outsR outs), .row A52 n53 c54 5 1 (by8 (txB v ins outs lt)), .row A1_ ins1.length c1_ 53 35 (insC ins1), .row B1_ outs1.length d1_ 40 2 (outsC outs1), .bag G1_, .bag K1_, .blk p116 [vw v1, .slice A1_ ins1.length c1_, .slice B1_ outs1.length d1_, vw lt1] 26, .row A135 ins1.length c136 89 35 (insR ins1), .row A137 outs1.length c138 91 2 (outsR outs1), .row A143 n144 c145 5 1 (by8 (txB v1 ins1 outs1 lt1))] w146 := H140.callNew H148
                     have hlA143 := (H147.rowLe 13 rfl).2.1
                     rw [by8_length, Nat.mul_one] at hlA143
                     have hS149 : Hp w [] [.blk p3 [vw v, .slice A ins.length ca, .slice B outs.length cb, vw lt] 26, .row A25 n26 c27 5 1 (by8 (txO v ins outs lt)), .blk p36 (by8 (txH v ins outs lt)) 51, .row A45 ins.length c46 89 35 (insR ins), .row A47 outs.length c48 91 2 (outsR outs), .row A52 n53 c54 5 1 (by8 (txB v ins outs lt)), .row A1_ ins1.length c1_ 53 35 (insC ins1), .row B1_ outs1.length d1_ 40 2 (outsC outs1), .bag G1_, .bag K1_, .blk p116 [vw v1, .slice A1_ ins1.length c1_, .slice B1_ outs1.length d1_, vw lt1] 26] w146 := H147.sub (List.Sublist.cons_cons _ (List.Sublist.cons_cons _ (List.Sublist.cons_cons _ (List.Sublist.cons_cons _ (List.Sublist.cons_cons _ (List.Sublist.cons_cons _ (List.Sublist.cons_cons _ (List.Sublist.cons_cons _ (List.Sublist.cons_cons _ (List.Sublist.cons_cons _ (List.Sublist.cons_cons _ (List.Sublist.cons _ (List.Sublist.cons _ (List.Sublist.cons _ (List.Sublist.slnil)))))))))))))))
                     refine ⟨_, rfl, hS149, [1, 14, 152, 155, 158], [(1, pt p3 0), (14, pt p116 0), (152, .bool true), (155, .slice A143 n144 c145), (158, .string (strOf (txB v ins outs lt)))], by kernel_rfl, ?_⟩
                     refine GP.weak (Hp w [] [.blk p3 [vw v, .slice A ins.length ca, .slice B outs.length cb, vw lt] 26, .row A25 n26 c27 5 1 (by8 (txO v ins outs lt)), .blk p36 (by8 (txH v ins outs lt)) 51, .row A45 ins.length c46 89 35 (insR ins), .row A47 outs.length c48 91 2 (outsR outs), .row A52 n53 c54 5 1 (by8 (txB v ins outs lt)), .row A1_ ins1.length c1_ 53 35 (insC ins1), .row B1_ outs1.length d1_ 40 2 (outsC outs1), .bag G1_, .bag K1_, .blk p116 [vw v1, .slice A1_ ins1.length c1_, .slice B1_ outs1.length d1_, vw lt1] 26, .row A143 n144 c145 5 1 (by8 (txB v1 ins1 outs1 lt1))]) (fun w_ h_ => h_.sub (List.Sublist.cons_cons _ (List.Sublist.cons_cons _ (List.Sublist.cons_cons _ (List.Sublist.cons_cons _ (List.Sublist.cons_cons _ (List.Sublist.cons_cons _ (List.Sublist.cons_cons _ (List.Sublist.cons_cons _ (List.Sublist.cons_cons _ (List.Sublist.cons_cons _ (List.Sublist.cons_cons _ (List.Sublist.cons _ (List.Sublist.slnil)))))))))))))) ?_
                     have hS150 : Hp w [] [.blk p3 [vw v, .slice A ins.length ca, .slice B outs.length cb, vw lt] 26, .row A25 n26 c27 5 1 (by8 (txO v ins outs lt)), .blk p36 (by8 (txH v ins outs lt)) 51, .row A45 ins.length c46 89 35 (insR ins), .row A47 outs.length c48 91 2 (outsR outs), .row A52 n53 c54 5 1 (by8 (txB v ins outs lt)), .row A1_ ins1.length c1_ 53 35 (insC ins1), .row B1_ outs1.length d1_ 40 2 (outsC outs1), .bag G1_, .bag K1_, .blk p116 [vw v1, .slice A1_ ins1.length c1_, .slice B1_ outs1.length d1_, vw lt1] 26, .row A143 n144 c145 5 1 (by8 (txB v1 ins1 outs1 lt1))] w146 := H147.sub (List.Sublist.cons_cons _ (List.Sublist.cons_cons _ (List.Sublist.cons_cons _ (List.Sublist.cons_cons _ (List.Sublist.cons_cons _ (List.Sublist.cons_cons _ (List.Sublist.cons_cons _ (List.Sublist.cons_cons _ (List.Sublist.cons_cons _ (List.Sublist.cons_cons _ (List.Sublist.cons_cons _ (List.Sublist.cons _ (List.Sublist.cons _ (List.Sublist.cons_cons _ (List.Sublist.slnil)))))))))))))))
                     refine GP.s 19 (fun w_ H_ => run_toStr (P := Try.prog) (src := 38) (dst := 9) (A := A143) (bs := (txB v1 ins1 outs1 lt1)) (n := n144) (c := c145) (by kernel_rfl) (by kernel_rfl) (H_.rdRow 11 rfl) (hlA143.symm)) [(1, pt p3 0), (14, pt p116 0), (152, .bool true), (156, .string (strOf (txB v1 ins1 outs1 lt1))), (158, .string (strOf (txB v ins outs lt)))] hS150 ?_
                     refine GP.s 22 (fun w_ H_ => run_str_eql (P := Try.prog) (t := 9) (txB v1 ins1 outs1 lt1) (txB v ins outs lt) _) [(1, pt p3 0), (14, pt p116 0), (152, .bool true), (159, .bool ((txB v1 ins1 outs1 lt1) == (txB v ins outs lt)))] hS150 ?_
                     refine GP.r [23, 24] [(1, pt p3 0), (14, pt p116 0), (161, .bool ((txB v1 ins1 outs1 lt1) == (txB v ins outs lt)))] [0, 1, 2, 3, 4, 5, 6, 7, 8, 9, 10, 11, 12, 13, 14, 15, 16, 20, 21, 17, 18, 19, 22, 23, 24] hS150 ?_
                     have hb151 : ((txB v1 ins1 outs1 lt1) == (txB v ins outs lt)) = true := by rw [← hX1, txO, if_pos hE]; exact beq_self_eq_true _
                     rw [hb151]
                     refine GP.r [25] [(1, pt p3 0), (14, pt p116 0), (161, .bool true), (162, pt p116 1)] [0, 1, 2, 3, 4, 5, 6, 7, 8, 9, 10, 11, 12, 13, 14, 15, 16, 20, 21, 17, 18, 19, 22, 23, 24, 25] hS150 ?_
                     refine GP.s 26 (fun w_ H_ => H_.ld (o := 1) (ty := 23) (v := .slice A1_ ins1.length c1_) 10 rfl (by kernel_rfl) rfl) [(1, pt p3 0), (14, pt p116 0), (161, .bool true), (163, .slice A1_ ins1.length c1_)] hS150 ?_
                     refine GP.r [27, 28] [(1, pt p3 0), (14, pt p116 0), (161, .bool true), (164, vi ins1.length), (165, pt p3 1)] [0, 1, 2, 3, 4, 5, 6, 7, 8, 9, 10, 11, 12, 13, 14, 15, 16, 20, 21, 17, 18, 19, 22, 23, 24, 25, 26, 27, 28] hS150 ?_
                     refine GP.s 29 (fun w_ H_ => H_.ld (o := 1) (ty := 23) (v := .slice A ins.length ca) 0 rfl (by kernel_rfl) rfl) [(1, pt p3 0), (14, pt p116 0), (161, .bool true), (164, vi ins1.length), (166, .slice A ins.length ca)] hS150 ?_
                     refine GP.r [30, 31, 32, 33] [(1, pt p3 0), (14, pt p116 0), (170, .bool ((ins1.length : Int) == (ins.length : Int)))] [0, 1, 2, 3, 4, 5, 6, 7, 8, 9, 10, 11, 12, 13, 14, 15, 16, 20, 21, 17, 18, 19, 22, 23, 24, 25, 26, 27, 28, 29, 30, 31, 32, 33] hS150 ?_
                     have hb152 : ((ins1.length : Int) == (ins.length : Int)) = true := by rw [hL1]; exact beq_self_eq_true _
                     rw [hb152]
                     refine GP.r [34] [(1, pt p3 0), (170, .bool true), (171, pt p116 2)] [0, 1, 2, 3, 4, 5, 6, 7, 8, 9, 10, 11, 12, 13, 14, 15, 16, 20, 21, 17, 18, 19, 22, 23, 24, 25, 26, 27, 28, 29, 30, 31, 32, 33, 34] hS150 ?_
                     refine GP.s 35 (fun w_ H_ => H_.ld (o := 2) (ty := 24) (v := .slice B1_ outs1.length d1_) 10 rfl (by kernel_rfl) rfl) [(1, pt p3 0), (170, .bool true), (172, .slice B1_ outs1.length d1_)] hS150 ?_
                     refine GP.r [36, 37] [(170, .bool true), (173, vi outs1.length), (174, pt p3 2)] [0, 1, 2, 3, 4, 5, 6, 7, 8, 9, 10, 11, 12, 13, 14, 15, 16, 20, 21, 17, 18, 19, 22, 23, 24, 25, 26, 27, 28, 29, 30, 31, 32, 33, 34, 35, 36, 37] hS150 ?_
                     refine GP.s 38 (fun w_ H_ => H_.ld (o := 2) (ty := 24) (v := .slice B outs.length cb) 0 rfl (by kernel_rfl) rfl) [(170, .bool true), (173, vi outs1.length), (175, .slice B outs.length cb)] hS150 ?_
                     refine GP.r [39, 40, 41, 42] [(2, .bool ((outs1.length : Int) == (outs.length : Int)))] [0, 1, 2, 3, 4, 5, 6, 7, 8, 9, 10, 11, 12, 13, 14, 15, 16, 20, 21, 17, 18, 19, 22, 23, 24, 25, 26, 27, 28, 29, 30, 31, 32, 33, 34, 35, 36, 37, 38, 39, 40, 41, 42] hS150 ?_
                     refine GP.k (by kernel_rfl) hK124 (fun _ _ h => h) ?_
                     refine G.ret fun F_ hF_ hM_ => hRet _ _ (bodyPost_1 rfl (RV.tmp rfl) ?_ F_ hF_ hM_)
                     have hb153 : ((outs1.length : Int) == (outs.length : Int)) = true := by rw [hL2]; exact beq_self_eq_true _
                     rw [hb153]
                     exact ⟨rfl, H147.sub (List.nil_sublist _)⟩
                   · skip
                     have hb110f : (((wnt outs outs.length) : Nat) : Int) ≠ 0 := bne_iff_ne.1 hb110
                     refine G.yes rfl ?_
                     refine G.sr fun K154 hK155 => ?_
                     refine GL.r 4 4 [(3, .slice A25 n26 c27), (5, pt p36 0), (6, vi (txE v ins outs lt)), (8, vi (wnt outs outs.length)), (118, .bool ((((txE v ins outs lt) : Nat) : Int) == (((wnt outs outs.length) : Nat) : Int)))] ?_
                     have hb156 : ((((txE v ins outs lt) : Nat) : Int) == (((wnt outs outs.length) : Nat) : Int)) = true := by rw [show txE v ins outs lt = _ from txE_w (by omega) (of_decide_eq_false hb101) (by omega)]; first | rfl | exact beq_self_eq_true _
                     rw [hb156]
                     refine GL.r 9 5 [(3, .slice A25 n26 c27), (5, pt p36 0), (123, .bool ((((txE v ins outs lt) : Nat) : Int) == (((wnt outs outs.length) : Nat) : Int)))] ?_
                     have hb157 : ((((txE v ins outs lt) : Nat) : Int) == (((wnt outs outs.length) : Nat) : Int)) = true := by assumption
                     rw [hb157]
                     refine GL.r 14 5 [(5, pt p36 0), (128, .bool ((n26 : Int) == 0))] ?_
                     have hb158 : ((n26 : Int) == 0) = true := by have h_ := congrArg List.length (txO_nil (show txE v ins outs lt ≠ 0 by rw [show txE v ins outs lt = _ from txE_w (by omega) (of_decide_eq_false hb101) (by omega)]; omega)); rw [List.length_nil] at h_; rw [show n26 = 0 by omega]; rfl
                     rw [hb158]
                     refine GL.s 15 (H87.ldA (o := 0) (ty := 51) (m := 32) (sub := by8 (txH v ins outs lt)) 2 rfl (by kernel_rfl) (sub_whole (by rw [by8_length, txH_length])) (by rw [by8_length, txH_length])) [(128, .bool true), (129, .agg (by8 (txH v ins outs lt)).toArray)] ?_
                     refine GL.call (j := 16) (Zero_calls (txH v ins outs lt) (by rw [txH_length]) w85) (by kernel_rfl) rfl (fun e_ w159 hR => ?_)
                     obtain ⟨rfl, H161⟩ := hR
                     have H160 : Hp w [] [.blk p3 [vw v, .slice A ins.length ca, .slice B outs.length cb, vw lt] 26, .row A25 n26 c27 5 1 (by8 (txO v ins outs lt)), .blk p36 (by8 (txH v ins outs lt)) 51, .row A45 ins.length c46 89 35 (insR ins), .row A47 outs.length c48 91 2 (outsR outs), .row A52 n53 c54 5 1 (by8 (txB v ins outs lt))] w159 := H87.callNil H161
                     refine ⟨_, rfl, [128, 130], [(128, .bool true), (130, .bool (decide ((txH v ins outs lt) = (List.replicate 32 0))))], by kernel_rfl, ?_⟩
                     refine GL.r 18 2 [(2, .bool (decide ((txH v ins outs lt) = (List.replicate 32 0))))] ?_
                     refine GL.q hK155 ?_
                     refine G.ret fun F_ hF_ hM_ => hRet _ _ (bodyPost_1 rfl (RV.tmp rfl) ?_ F_ hF_ hM_)
                     have hb162 : (decide ((txH v ins outs lt) = (List.replicate 32 0))) = true := decide_eq_true (if_neg (by rw [show txE v ins outs lt = _ from txE_w (by omega) (of_decide_eq_false hb101) (by omega)]; omega))
                     rw [hb162]
                     exact ⟨rfl, H160.sub (List.nil_sublist _)⟩
                 · skip
                   have hb103f := eq_of_beq hb103
                   refine G.yes rfl ?_
                   refine G.region ?_
                   refine GL.r 1 1 [(1, pt p3 0), (3, .slice A25 n26 c27), (4, vi (txE v ins outs lt)), (5, pt p36 0), (6, vi (txE v ins outs lt)), (7, .slice A52 n53 c54), (8, li 3)] ?_
                   refine GL.q hK94 ?_
                   refine G.seqK fun K163 hK164 => ?_
                   refine G.sr fun K165 hK166 => ?_
                   refine GL.r 4 4 [(1, pt p3 0), (3, .slice A25 n26 c27), (4, vi (txE v ins outs lt)), (5, pt p36 0), (6, vi (txE v ins outs lt)), (7, .slice A52 n53 c54), (8, li 3), (106, .bool ((((txE v ins outs lt) : Nat) : Int) != 3))] ?_
                   have hb167 : ((((txE v ins outs lt) : Nat) : Int) != 3) = false := by rw [show txE v ins outs lt = _ from txE_3b (by omega) (of_decide_eq_false hb101) (by omega)]; first | rfl | exact bne_self_eq_false _
                   rw [hb167]
                   refine GL.r 9 5 [(1, pt p3 0), (3, .slice A25 n26 c27), (4, vi (txE v ins outs lt)), (5, pt p36 0), (6, vi (txE v ins outs lt)), (7, .slice A52 n53 c54), (8, li 3), (111, .bool ((((txE v ins outs lt) : Nat) : Int) != 3))] ?_
                   have hb168 : ((((txE v ins outs lt) : Nat) : Int) != 3) = false := by assumption
                   rw [hb168]
                   refine GL.r 12 3 [(1, pt p3 0), (3, .slice A25 n26 c27), (4, vi (txE v ins outs lt)), (5, pt p36 0), (6, vi (txE v ins outs lt)), (7, .slice A52 n53 c54), (8, li 3), (114, .bool true)] ?_
                   refine GL.q hK166 ?_
                   refine G.yes rfl ?_
                   refine G.sr fun K169 hK170 => ?_
                   refine GL.r 4 4 [(3, .slice A25 n26 c27), (5, pt p36 0), (6, vi (txE v ins outs lt)), (8, li 3), (118, .bool ((((txE v ins outs lt) : Nat) : Int) == 3))] ?_
                   have hb171 : ((((txE v ins outs lt) : Nat) : Int) == 3) = true := by rw [show txE v ins outs lt = _ from txE_3b (by omega) (of_decide_eq_false hb101) (by omega)]; first | rfl | exact beq_self_eq_true _
                   rw [hb171]
                   refine GL.r 9 5 [(3, .slice A25 n26 c27), (5, pt p36 0), (123, .bool ((((txE v ins outs lt) : Nat) : Int) == 3))] ?_
                   have hb172 : ((((txE v ins outs lt) : Nat) : Int) == 3) = true := by assumption
                   rw [hb172]
                   refine GL.r 14 5 [(5, pt p36 0), (128, .bool ((n26 : Int) == 0))] ?_
                   have hb173 : ((n26 : Int) == 0) = true := by have h_ := congrArg List.length (txO_nil (show txE v ins outs lt ≠ 0 by rw [show txE v ins outs lt = _ from txE_3b (by omega) (of_decide_eq_false hb101) (by omega)]; omega)); rw [List.length_nil] at h_; rw [show n26 = 0 by omega]; rfl
                   rw [hb173]
                   refine GL.s 15 (H87.ldA (o := 0) (ty := 51) (m := 32) (sub := by8 (txH v ins outs lt)) 2 rfl (by kernel_rfl) (sub_whole (by rw [by8_length, txH_length])) (by rw [by8_length, txH_length])) [(128, .bool true), (129, .agg (by8 (txH v ins outs lt)).toArray)] ?_
                   refine GL.call (j := 16) (Zero_calls (txH v ins outs lt) (by rw [txH_length]) w85) (by kernel_rfl) rfl (fun e_ w174 hR => ?_)
                   obtain ⟨rfl, H176⟩ := hR
                   have H175 : Hp w [] [.blk p3 [vw v, .slice A ins.length ca, .slice B outs.length cb, vw lt] 26, .row A25 n26 c27 5 1 (by8 (txO v ins outs lt)), .blk p36 (by8 (txH v ins outs lt)) 51, .row A45 ins.length c46 89 35 (insR ins), .row A47 outs.length c48 91 2 (outsR outs), .row A52 n53 c54 5 1 (by8 (txB v ins outs lt))] w174 := H87.callNil H176
                   refine ⟨_, rfl, [128, 130], [(128, .bool true), (130, .bool (decide ((txH v ins outs lt) = (List.replicate 32 0))))], by kernel_rfl, ?_⟩
                   refine GL.r 18 2 [(2, .bool (decide ((txH v ins outs lt) = (List.replicate 32 0))))] ?_
                   refine GL.q hK170 ?_
                   refine G.ret fun F_ hF_ hM_ => hRet _ _ (bodyPost_1 rfl (RV.tmp rfl) ?_ F_ hF_ hM_)
                   have hb177 : (decide ((txH v ins outs lt) = (List.replicate 32 0))) = true := decide_eq_true (if_neg (by rw [show txE v ins outs lt = _ from txE_3b (by omega) (of_decide_eq_false hb101) (by omega)]; omega))
                   rw [hb177]
                   exact ⟨rfl, H175.sub (List.nil_sublist _)⟩
               · skip
                 have hb102f := of_decide_eq_true hb102
                 refine GL.r 12 5 [(1, pt p3 0), (3, .slice A25 n26 c27), (4, vi (txE v ins outs lt)), (5, pt p36 0), (6, vi (txE v ins outs lt)), (7, .slice A52 n53 c54), (8, vi (wnt outs outs.length)), (91, .bool true)] ?_
                 refine GL.q hK100 ?_
                 refine G.yes rfl ?_
                 refine G.region ?_
                 refine GL.r 1 1 [(1, pt p3 0), (3, .slice A25 n26 c27), (4, vi (txE v ins outs lt)), (5, pt p36 0), (6, vi (txE v ins outs lt)), (7, .slice A52 n53 c54), (8, li 3)] ?_
                 refine GL.q hK94 ?_
                 refine G.seqK fun K178 hK179 => ?_
                 refine G.sr fun K180 hK181 => ?_
                 refine GL.r 4 4 [(1, pt p3 0), (3, .slice A25 n26 c27), (4, vi (txE v ins outs lt)), (5, pt p36 0), (6, vi (txE v ins outs lt)), (7, .slice A52 n53 c54), (8, li 3), (106, .bool ((((txE v ins outs lt) : Nat) : Int) != 3))] ?_
                 have hb182 : ((((txE v ins outs lt) : Nat) : Int) != 3) = false := by rw [show txE v ins outs lt = _ from txE_3b (by omega) (of_decide_eq_false hb101) (by omega)]; first | rfl | exact bne_self_eq_false _
                 rw [hb182]
                 refine GL.r 9 5 [(1, pt p3 0), (3, .slice A25 n26 c27), (4, vi (txE v ins outs lt)), (5, pt p36 0), (6, vi (txE v ins outs lt)), (7, .slice A52 n53 c54), (8, li 3), (111, .bool ((((txE v ins outs lt) : Nat) : Int) != 3))] ?_
                 have hb183 : ((((txE v ins outs lt) : Nat) : Int) != 3) = false := by assumption
                 rw [hb183]
                 refine GL.r 12 3 [(1, pt p3 0), (3, .slice A25 n26 c27), (4, vi (txE v ins outs lt)), (5, pt p36 0), (6, vi (txE v ins outs lt)), (7, .slice A52 n53 c54), (8, li 3), (114, .bool true)] ?_
                 refine GL.q hK181 ?_
                 refine G.yes rfl ?_
                 refine G.sr fun K184 hK185 => ?_
                 refine GL.r 4 4 [(3, .slice A25 n26 c27), (5, pt p36 0), (6, vi (txE v ins outs lt)), (8, li 3), (118, .bool ((((txE v ins outs lt) : Nat) : Int) == 3))] ?_
                 have hb186 : ((((txE v ins outs lt) : Nat) : Int) == 3) = true := by rw [show txE v ins outs lt = _ from txE_3b (by omega) (of_decide_eq_false hb101) (by omega)]; first | rfl | exact beq_self_eq_true _
                 rw [hb186]
                 refine GL.r 9 5 [(3, .slice A25 n26 c27), (5, pt p36 0), (123, .bool ((((txE v ins outs lt) : Nat) : Int) == 3))] ?_
                 have hb187 : ((((txE v ins outs lt) : Nat) : Int) == 3) = true := by assumption
                 rw [hb187]
                 refine GL.r 14 5 [(5, pt p36 0), (128, .bool ((n26 : Int) == 0))] ?_
                 have hb188 : ((n26 : Int) == 0) = true := by have h_ := congrArg List.length (txO_nil (show txE v ins outs lt ≠ 0 by rw [show txE v ins outs lt = _ from txE_3b (by omega) (of_decide_eq_false hb101) (by omega)]; omega)); rw [List.length_nil] at h_; rw [show n26 = 0 by omega]; rfl
                 rw [hb188]
                 refine GL.s 15 (H87.ldA (o := 0) (ty := 51) (m := 32) (sub := by8 (txH v ins outs lt)) 2 rfl (by kernel_rfl) (sub_whole (by rw [by8_length, txH_length])) (by rw [by8_length, txH_length])) [(128, .bool true), (129, .agg (by8 (txH v ins outs lt)).toArray)] ?_
                 refine GL.call (j := 16) (Zero_calls (txH v ins outs lt) (by rw [txH_length]) w85) (by kernel_rfl) rfl (fun e_ w189 hR => ?_)
                 obtain ⟨rfl, H191⟩ := hR
                 have H190 : Hp w [] [.blk p3 [vw v, .slice A ins.length ca, .slice B outs.length cb, vw lt] 26, .row A25 n26 c27 5 1 (by8 (txO v ins outs lt)), .blk p36 (by8 (txH v ins outs lt)) 51, .row A45 ins.length c46 89 35 (insR ins), .row A47 outs.length c48 91 2 (outsR outs), .row A52 n53 c54 5 1 (by8 (txB v ins outs lt))] w189 := H87.callNil H191
                 refine ⟨_, rfl, [128, 130], [(128, .bool true), (130, .bool (decide ((txH v ins outs lt) = (List.replicate 32 0))))], by kernel_rfl, ?_⟩
                 refine GL.r 18 2 [(2, .bool (decide ((txH v ins outs lt) = (List.replicate 32 0))))] ?_
                 refine GL.q hK185 ?_
                 refine G.ret fun F_ hF_ hM_ => hRet _ _ (bodyPost_1 rfl (RV.tmp rfl) ?_ F_ hF_ hM_)
                 have hb192 : (decide ((txH v ins outs lt) = (List.replicate 32 0))) = true := decide_eq_true (if_neg (by rw [show txE v ins outs lt = _ from txE_3b (by omega) (of_decide_eq_false hb101) (by omega)]; omega))
                 rw [hb192]
                 exact ⟨rfl, H190.sub (List.nil_sublist _)⟩
             · skip
               have hb101f := of_decide_eq_true hb101
               refine GL.r 12 10 [(1, pt p3 0), (3, .slice A25 n26 c27), (4, vi (txE v ins outs lt)), (5, pt p36 0), (6, vi (txE v ins outs lt)), (7, .slice A52 n53 c54), (8, vi (wnt outs outs.length)), (91, .bool true)] ?_
               refine GL.q hK100 ?_
               refine G.yes rfl ?_
               refine G.region ?_
               refine GL.r 1 1 [(1, pt p3 0), (3, .slice A25 n26 c27), (4, vi (txE v ins outs lt)), (5, pt p36 0), (6, vi (txE v ins outs lt)), (7, .slice A52 n53 c54), (8, li 3)] ?_
               refine GL.q hK94 ?_
               refine G.seqK fun K193 hK194 => ?_
               refine G.sr fun K195 hK196 => ?_
               refine GL.r 4 4 [(1, pt p3 0), (3, .slice A25 n26 c27), (4, vi (txE v ins outs lt)), (5, pt p36 0), (6, vi (txE v ins outs lt)), (7, .slice A52 n53 c54), (8, li 3), (106, .bool ((((txE v ins outs lt) : Nat) : Int) != 3))] ?_
               have hb197 : ((((txE v ins outs lt) : Nat) : Int) != 3) = false := by rw [show txE v ins outs lt = _ from txE_3a (by omega) (of_decide_eq_true hb101)]; first | rfl | exact bne_self_eq_false _
               rw [hb197]
               refine GL.r 9 5 [(1, pt p3 0), (3, .slice A25 n26 c27), (4, vi (txE v ins outs lt)), (5, pt p36 0), (6, vi (txE v ins outs lt)), (7, .slice A52 n53 c54), (8, li 3), (111, .bool ((((txE v ins outs lt) : Nat) : Int) != 3))] ?_
               have hb198 : ((((txE v ins outs lt) : Nat) : Int) != 3) = false := by assumption
               rw [hb198]
               refine GL.r 12 3 [(1, pt p3 0), (3, .slice A25 n26 c27), (4, vi (txE v ins outs lt)), (5, pt p36 0), (6, vi (txE v ins outs lt)), (7, .slice A52 n53 c54), (8, li 3), (114, .bool true)] ?_
               refine GL.q hK196 ?_
               refine G.yes rfl ?_
               refine G.sr fun K199 hK200 => ?_
               refine GL.r 4 4 [(3, .slice A25 n26 c27), (5, pt p36 0), (6, vi (txE v ins outs lt)), (8, li 3), (118, .bool ((((txE v ins outs lt) : Nat) : Int) == 3))] ?_
               have hb201 : ((((txE v ins outs lt) : Nat) : Int) == 3) = true := by rw [show txE v ins outs lt = _ from txE_3a (by omega) (of_decide_eq_true hb101)]; first | rfl | exact beq_self_eq_true _
               rw [hb201]
               refine GL.r 9 5 [(3, .slice A25 n26 c27), (5, pt p36 0), (123, .bool ((((txE v ins outs lt) : Nat) : Int) == 3))] ?_
               have hb202 : ((((txE v ins outs lt) : Nat) : Int) == 3) = true := by assumption
               rw [hb202]
               refine GL.r 14 5 [(5, pt p36 0), (128, .bool ((n26 : Int) == 0))] ?_
               have hb203 : ((n26 : Int) == 0) = true := by have h_ := congrArg List.length (txO_nil (show txE v ins outs lt ≠ 0 by rw [show txE v ins outs lt = _ from txE_3a (by omega) (of_decide_eq_true hb101)]; omega)); rw [List.length_nil] at h_; rw [show n26 = 0 by omega]; rfl
               rw [hb203]
               refine GL.s 15 (H87.ldA (o := 0) (ty := 51) (m := 32) (sub := by8 (txH v ins outs lt)) 2 rfl (by kernel_rfl) (sub_whole (by rw [by8_length, txH_length])) (by rw [by8_length, txH_length])) [(128, .bool true), (129, .agg (by8 (txH v ins outs lt)).toArray)] ?_
               refine GL.call (j := 16) (Zero_calls (txH v ins outs lt) (by rw [txH_length]) w85) (by kernel_rfl) rfl (fun e_ w204 hR => ?_)
               obtain ⟨rfl, H206⟩ := hR
               have H205 : Hp w [] [.blk p3 [vw v, .slice A ins.length ca, .slice B outs.length cb, vw lt] 26, .row A25 n26 c27 5 1 (by8 (txO v ins outs lt)), .blk p36 (by8 (txH v ins outs lt)) 51, .row A45 ins.length c46 89 35 (insR ins), .row A47 outs.length c48 91 2 (outsR outs), .row A52 n53 c54 5 1 (by8 (txB v ins outs lt))] w204 := H87.callNil H206
               refine ⟨_, rfl, [128, 130], [(128, .bool true), (130, .bool (decide ((txH v ins outs lt) = (List.replicate 32 0))))], by kernel_rfl, ?_⟩
               refine GL.r 18 2 [(2, .bool (decide ((txH v ins outs lt) = (List.replicate 32 0))))] ?_
               refine GL.q hK200 ?_
               refine G.ret fun F_ hF_ hM_ => hRet _ _ (bodyPost_1 rfl (RV.tmp rfl) ?_ F_ hF_ hM_)
               have hb207 : (decide ((txH v ins outs lt) = (List.replicate 32 0))) = true := decide_eq_true (if_neg (by rw [show txE v ins outs lt = _ from txE_3a (by omega) (of_decide_eq_true hb101)]; omega))
               rw [hb207]
               exact ⟨rfl, H205.sub (List.nil_sublist _)⟩
           · skip
             have hb98f := eq_of_beq hb98
             refine G.yes rfl ?_
             refine G.region ?_
             refine GL.r 1 1 [(1, pt p3 0), (3, .slice A25 n26 c27), (4, vi (txE v ins outs lt)), (5, pt p36 0), (6, vi (txE v ins outs lt)), (7, .slice A52 n53 c54), (8, li 16)] ?_
             refine GL.q hK94 ?_
             refine G.seqK fun K208 hK209 => ?_
             refine G.sr fun K210 hK211 => ?_
             refine GL.r 4 4 [(1, pt p3 0), (3, .slice A25 n26 c27), (4, vi (txE v ins outs lt)), (5, pt p36 0), (6, vi (txE v ins outs lt)), (7, .slice A52 n53 c54), (8, li 16), (106, .bool ((((txE v ins outs lt) : Nat) : Int) != 16))] ?_
             have hb212 : ((((txE v ins outs lt) : Nat) : Int) != 16) = false := by rw [show txE v ins outs lt = _ from txE_16 (by omega)]; first | rfl | exact bne_self_eq_false _
             rw [hb212]
             refine GL.r 9 5 [(1, pt p3 0), (3, .slice A25 n26 c27), (4, vi (txE v ins outs lt)), (5, pt p36 0), (6, vi (txE v ins outs lt)), (7, .slice A52 n53 c54), (8, li 16), (111, .bool ((((txE v ins outs lt) : Nat) : Int) != 16))] ?_
             have hb213 : ((((txE v ins outs lt) : Nat) : Int) != 16) = false := by assumption
             rw [hb213]
             refine GL.r 12 3 [(1, pt p3 0), (3, .slice A25 n26 c27), (4, vi (txE v ins outs lt)), (5, pt p36 0), (6, vi (txE v ins outs lt)), (7, .slice A52 n53 c54), (8, li 16), (114, .bool true)] ?_
             refine GL.q hK211 ?_
             refine G.yes rfl ?_
             refine G.sr fun K214 hK215 => ?_
             refine GL.r 4 4 [(3, .slice A25 n26 c27), (5, pt p36 0), (6, vi (txE v ins outs lt)), (8, li 16), (118, .bool ((((txE v ins outs lt) : Nat) : Int) == 16))] ?_
             have hb216 : ((((txE v ins outs lt) : Nat) : Int) == 16) = true := by rw [show txE v ins outs lt = _ from txE_16 (by omega)]; first | rfl | exact beq_self_eq_true _
             rw [hb216]
             refine GL.r 9 5 [(3, .slice A25 n26 c27), (5, pt p36 0), (123, .bool ((((txE v ins outs lt) : Nat) : Int) == 16))] ?_
             have hb217 : ((((txE v ins outs lt) : Nat) : Int) == 16) = true := by assumption
             rw [hb217]
             refine GL.r 14 5 [(5, pt p36 0), (128, .bool ((n26 : Int) == 0))] ?_
             have hb218 : ((n26 : Int) == 0) = true := by have h_ := congrArg List.length (txO_nil (show txE v ins outs lt ≠ 0 by rw [show txE v ins outs lt = _ from txE_16 (by omega)]; omega)); rw [List.length_nil] at h_; rw [show n26 = 0 by omega]; rfl
             rw [hb218]
             refine GL.s 15 (H87.ldA (o := 0) (ty := 51) (m := 32) (sub := by8 (txH v ins outs lt)) 2 rfl (by kernel_rfl) (sub_whole (by rw [by8_length, txH_length])) (by rw [by8_length, txH_length])) [(128, .bool true), (129, .agg (by8 (txH v ins outs lt)).toArray)] ?_
             refine GL.call (j := 16) (Zero_calls (txH v ins outs lt) (by rw [txH_length]) w85) (by kernel_rfl) rfl (fun e_ w219 hR => ?_)
             obtain ⟨rfl, H221⟩ := hR
             have H220 : Hp w [] [.blk p3 [vw v, .slice A ins.length ca, .slice B outs.length cb, vw lt] 26, .row A25 n26 c27 5 1 (by8 (txO v ins outs lt)), .blk p36 (by8 (txH v ins outs lt)) 51, .row A45 ins.length c46 89 35 (insR ins), .row A47 outs.length c48 91 2 (outsR outs), .row A52 n53 c54 5 1 (by8 (txB v ins outs lt))] w219 := H87.callNil H221
             refine ⟨_, rfl, [128, 130], [(128, .bool true), (130, .bool (decide ((txH v ins outs lt) = (List.replicate 32 0))))], by kernel_rfl, ?_⟩
             refine GL.r 18 2 [(2, .bool (decide ((txH v ins outs lt) = (List.replicate 32 0))))] ?_
             refine GL.q hK215 ?_
             refine G.ret fun F_ hF_ hM_ => hRet _ _ (bodyPost_1 rfl (RV.tmp rfl) ?_ F_ hF_ hM_)
             have hb222 : (decide ((txH v ins outs lt) = (List.replicate 32 0))) = true := decide_eq_true (if_neg (by rw [show txE v ins outs lt = _ from txE_16 (by omega)]; omega))
             rw [hb222]
             exact ⟨rfl, H220.sub (List.nil_sublist _)⟩
         · skip
           have hb97f := eq_of_beq hb97
           refine GL.r 11 6 [(1, pt p3 0), (3, .slice A25 n26 c27), (4, vi (txE v ins outs lt)), (5, pt p36 0), (6, vi (txE v ins outs lt)), (7, .slice A52 n53 c54), (8, vi (wnt outs outs.length)), (9, .bool (decide (lgP ins outs ins.length outs.length))), (80, .bool true)] ?_
           refine GL.q hK96 ?_
           refine G.yes rfl ?_
           refine G.region ?_
           refine GL.r 1 1 [(1, pt p3 0), (3, .slice A25 n26 c27), (4, vi (txE v ins outs lt)), (5, pt p36 0), (6, vi (txE v ins outs lt)), (7, .slice A52 n53 c54), (8, li 16)] ?_
           refine GL.q hK94 ?_
           refine G.seqK fun K223 hK224 => ?_
           refine G.sr fun K225 hK226 => ?_
           refine GL.r 4 4 [(1, pt p3 0), (3, .slice A25 n26 c27), (4, vi (txE v ins outs lt)), (5, pt p36 0), (6, vi (txE v ins outs lt)), (7, .slice A52 n53 c54), (8, li 16), (106, .bool ((((txE v ins outs lt) : Nat) : Int) != 16))] ?_
           have hb227 : ((((txE v ins outs lt) : Nat) : Int) != 16) = false := by rw [show txE v ins outs lt = _ from txE_16 (by omega)]; first | rfl | exact bne_self_eq_false _
           rw [hb227]
           refine GL.r 9 5 [(1, pt p3 0), (3, .slice A25 n26 c27), (4, vi (txE v ins outs lt)), (5, pt p36 0), (6, vi (txE v ins outs lt)), (7, .slice A52 n53 c54), (8, li 16), (111, .bool ((((txE v ins outs lt) : Nat) : Int) != 16))] ?_
           have hb228 : ((((txE v ins outs lt) : Nat) : Int) != 16) = false := by assumption
           rw [hb228]
           refine GL.r 12 3 [(1, pt p3 0), (3, .slice A25 n26 c27), (4, vi (txE v ins outs lt)), (5, pt p36 0), (6, vi (txE v ins outs lt)), (7, .slice A52 n53 c54), (8, li 16), (114, .bool true)] ?_
           refine GL.q hK226 ?_
           refine G.yes rfl ?_
           refine G.sr fun K229 hK230 => ?_
           refine GL.r 4 4 [(3, .slice A25 n26 c27), (5, pt p36 0), (6, vi (txE v ins outs lt)), (8, li 16), (118, .bool ((((txE v ins outs lt) : Nat) : Int) == 16))] ?_
           have hb231 : ((((txE v ins outs lt) : Nat) : Int) == 16) = true := by rw [show txE v ins outs lt = _ from txE_16 (by omega)]; first | rfl | exact beq_self_eq_true _
           rw [hb231]
           refine GL.r 9 5 [(3, .slice A25 n26 c27), (5, pt p36 0), (123, .bool ((((txE v ins outs lt) : Nat) : Int) == 16))] ?_
           have hb232 : ((((txE v ins outs lt) : Nat) : Int) == 16) = true := by assumption
           rw [hb232]
           refine GL.r 14 5 [(5, pt p36 0), (128, .bool ((n26 : Int) == 0))] ?_
           have hb233 : ((n26 : Int) == 0) = true := by have h_ := congrArg List.length (txO_nil (show txE v ins outs lt ≠ 0 by rw [show txE v ins outs lt = _ from txE_16 (by omega)]; omega)); rw [List.length_nil] at h_; rw [show n26 = 0 by omega]; rfl
           rw [hb233]
           refine GL.s 15 (H87.ldA (o := 0) (ty := 51) (m := 32) (sub := by8 (txH v ins outs lt)) 2 rfl (by kernel_rfl) (sub_whole (by rw [by8_length, txH_length])) (by rw [by8_length, txH_length])) [(128, .bool true), (129, .agg (by8 (txH v ins outs lt)).toArray)] ?_
           refine GL.call (j := 16) (Zero_calls (txH v ins outs lt) (by rw [txH_length]) w85) (by kernel_rfl) rfl (fun e_ w234 hR => ?_)
           obtain ⟨rfl, H236⟩ := hR
           have H235 : Hp w [] [.blk p3 [vw v, .slice A ins.length ca, .slice B outs.length cb, vw lt] 26, .row A25 n26 c27 5 1 (by8 (txO v ins outs lt)), .blk p36 (by8 (txH v ins outs lt)) 51, .row A45 ins.length c46 89 35 (insR ins), .row A47 outs.length c48 91 2 (outsR outs), .row A52 n53 c54 5 1 (by8 (txB v ins outs lt))] w234 := H87.callNil H236
           refine ⟨_, rfl, [128, 130], [(128, .bool true), (130, .bool (decide ((txH v ins outs lt) = (List.replicate 32 0))))], by kernel_rfl, ?_⟩
           refine GL.r 18 2 [(2, .bool (decide ((txH v ins outs lt) = (List.replicate 32 0))))] ?_
           refine GL.q hK230 ?_
           refine G.ret fun F_ hF_ hM_ => hRet _ _ (bodyPost_1 rfl (RV.tmp rfl) ?_ F_ hF_ hM_)
           have hb237 : (decide ((txH v ins outs lt) = (List.replicate 32 0))) = true := decide_eq_true (if_neg (by rw [show txE v ins outs lt = _ from txE_16 (by omega)]; omega))
           rw [hb237]
           exact ⟨rfl, H235.sub (List.nil_sublist _)⟩
       · skip
         have hb92f := of_decide_eq_true hb92
         refine G.yes rfl ?_
         refine G.skipK hK91 (fun _ _ h => h) ?_
         refine G.seqK fun K238 hK239 => ?_
         refine G.block ?_
         refine G.sr fun K240 hK241 => ?_
         obtain ⟨x242, hx243⟩ : ∃ x, outs[j]? = some x := ⟨_, List.getElem?_eq_getElem (by omega)⟩
         have hok244 := hO x242 (List.mem_of_getElem? hx243)
         refine GL.s 1 (run_idxRdN (P := Try.prog) (k := .i64) (t := 24) (sz := 2) (A := B) (len := outs.length) (cap := cb) (j := j) (by kernel_rfl) rfl (hOuts.hp H87) (outsC_length _) (by decide) (by omega)) [(1, pt p3 0), (3, .slice A25 n26 c27), (4, vi (txE v ins outs lt)), (5, pt p36 0), (6, vi (txE v ins outs lt)), (7, .slice A52 n53 c54), (8, vi (wnt outs j)), (9, .bool (decide (lgP ins outs ins.length j))), (63, .slice B outs.length cb), (64, vi outs.length), (65, vi j), (67, .pointer (Option.map (fun x => Addr.add x (j * 2)) B))] ?_
         refine GL.s 2 (run_ldRdA (P := Try.prog) (ty := 40) (A := B) (o := (j * 2)) (m := 2) (sub := [vu x242.pv, .slice x242.B x242.lb.length x242.lc]) (by kernel_rfl) (hOuts.hp H87) (outsC_cut hx243) (rfl) (by decide)) [(1, pt p3 0), (3, .slice A25 n26 c27), (4, vi (txE v ins outs lt)), (5, pt p36 0), (6, vi (txE v ins outs lt)), (7, .slice A52 n53 c54), (8, vi (wnt outs j)), (9, .bool (decide (lgP ins outs ins.length j))), (63, .slice B outs.length cb), (64, vi outs.length), (65, vi j), (68, .agg #[vu x242.pv, .slice x242.B x242.lb.length x242.lc])] ?_
         obtain ⟨p245, w246, r247, H248⟩ := H87.alloc (P := Try.prog) 40 [lu 0, .slice none 0 0] (by kernel_rfl)
         refine GL.s 3 (r247) [(1, pt p3 0), (3, .slice A25 n26 c27), (4, vi (txE v ins outs lt)), (5, pt p36 0), (6, vi (txE v ins outs lt)), (7, .slice A52 n53 c54), (8, vi (wnt outs j)), (9, .bool (decide (lgP ins outs ins.length j))), (13, pt p245 0), (63, .slice B outs.length cb), (64, vi outs.length), (65, vi j), (68, .agg #[vu x242.pv, .slice x242.B x242.lb.length x242.lc])] ?_
         obtain ⟨w249, r250, H251⟩ := H248.stA (P := Try.prog) (o := 0) (vs := [vu x242.pv, .slice x242.B x242.lb.length x242.lc]) (ty := 40) (m := 2) 6 rfl (by kernel_rfl) rfl (by simp) (by simp [Value.oneCell'])
         refine GL.u 4 r250 [(1, pt p3 0), (3, .slice A25 n26 c27), (4, vi (txE v ins outs lt)), (5, pt p36 0), (6, vi (txE v ins outs lt)), (7, .slice A52 n53 c54), (8, vi (wnt outs j)), (9, .bool (decide (lgP ins outs ins.length j))), (13, pt p245 0), (63, .slice B outs.length cb), (64, vi outs.length), (65, vi j)] ?_
         refine GL.q hK241 ?_
         refine G.sr fun K252 hK253 => ?_
         refine GL.r 2 2 [(1, pt p3 0), (3, .slice A25 n26 c27), (4, vi (txE v ins outs lt)), (5, pt p36 0), (6, vi (txE v ins outs lt)), (7, .slice A52 n53 c54), (8, vi (wnt outs j)), (13, pt p245 0), (63, .slice B outs.length cb), (64, vi outs.length), (65, vi j), (70, .bool (decide (lgP ins outs ins.length j)))] ?_
         cases hb254 : (decide (lgP ins outs ins.length j))
         · skip
           have hb254f := of_decide_eq_false hb254
           refine GL.r 3 1 [(1, pt p3 0), (3, .slice A25 n26 c27), (4, vi (txE v ins outs lt)), (5, pt p36 0), (6, vi (txE v ins outs lt)), (7, .slice A52 n53 c54), (8, vi (wnt outs j)), (13, pt p245 0), (63, .slice B outs.length cb), (64, vi outs.length), (65, vi j), (70, .bool false), (71, pt p245 1)] ?_
           refine GL.s 4 (H251.ld (o := 1) (ty := 38) (v := .slice x242.B x242.lb.length x242.lc) 6 rfl (by kernel_rfl) rfl) [(1, pt p3 0), (3, .slice A25 n26 c27), (4, vi (txE v ins outs lt)), (5, pt p36 0), (6, vi (txE v ins outs lt)), (7, .slice A52 n53 c54), (8, vi (wnt outs j)), (13, pt p245 0), (63, .slice B outs.length cb), (64, vi outs.length), (65, vi j), (70, .bool false), (72, .slice x242.B x242.lb.length x242.lc)] ?_
           refine GL.r 8 4 [(1, pt p3 0), (3, .slice A25 n26 c27), (4, vi (txE v ins outs lt)), (5, pt p36 0), (6, vi (txE v ins outs lt)), (7, .slice A52 n53 c54), (8, vi (wnt outs j)), (9, .bool (decide (520 < (x242.lb.length : Int)))), (13, pt p245 0), (63, .slice B outs.length cb), (64, vi outs.length), (65, vi j)] ?_
           refine GL.q hK253 ?_
           refine G.sr fun K255 hK256 => ?_
           refine GL.r 1 1 [(1, pt p3 0), (3, .slice A25 n26 c27), (4, vi (txE v ins outs lt)), (5, pt p36 0), (6, vi (txE v ins outs lt)), (7, .slice A52 n53 c54), (8, vi (wnt outs j)), (9, .bool (decide (520 < (x242.lb.length : Int)))), (63, .slice B outs.length cb), (64, vi outs.length), (65, vi j), (76, pt p245 0)] ?_
           refine GL.s 2 (H251.ld (o := 0) (ty := 32) (v := vu x242.pv) 6 rfl (by kernel_rfl) rfl) [(1, pt p3 0), (3, .slice A25 n26 c27), (4, vi (txE v ins outs lt)), (5, pt p36 0), (6, vi (txE v ins outs lt)), (7, .slice A52 n53 c54), (8, vi (wnt outs j)), (9, .bool (decide (520 < (x242.lb.length : Int)))), (63, .slice B outs.length cb), (64, vi outs.length), (65, vi j), (77, vu x242.pv)] ?_
           refine GL.r 3 1 [(1, pt p3 0), (3, .slice A25 n26 c27), (4, vi (txE v ins outs lt)), (5, pt p36 0), (6, vi (txE v ins outs lt)), (7, .slice A52 n53 c54), (8, vi (wnt outs j)), (9, .bool (decide (520 < (x242.lb.length : Int)))), (63, .slice B outs.length cb), (64, vi outs.length), (65, vi j), (78, .bool (decide (4611686018427387904 < (x242.pv : Int))))] ?_
           refine GL.q hK256 ?_
           cases hb257 : (decide (4611686018427387904 < (x242.pv : Int)))
           · skip
             have hb257f := of_decide_eq_false hb257
             refine G.no rfl ?_
             refine G.skipK hK239 (fun _ _ h => h) ?_
             refine G.region ?_
             refine GL.r 2 2 [(1, pt p3 0), (3, .slice A25 n26 c27), (4, vi (txE v ins outs lt)), (5, pt p36 0), (6, vi (txE v ins outs lt)), (7, .slice A52 n53 c54), (8, vi (wnt outs j)), (9, .bool (decide (520 < (x242.lb.length : Int)))), (63, .slice B outs.length cb), (64, vi outs.length), (65, li (IntKind.i64.wrap ((j : Int) + 1)))] ?_
             have e258 : (IntKind.i64.wrap ((j : Int) + 1)) = ((j + 1 : Nat) : Int) := by rw [in_i64 (by omega)]; omega
             rw [e258]
             clear e258
             have H259 : Hp w [] [.blk p3 [vw v, .slice A ins.length ca, .slice B outs.length cb, vw lt] 26, .row A25 n26 c27 5 1 (by8 (txO v ins outs lt)), .blk p36 (by8 (txH v ins outs lt)) 51, .row A45 ins.length c46 89 35 (insR ins), .row A47 outs.length c48 91 2 (outsR outs), .row A52 n53 c54 5 1 (by8 (txB v ins outs lt))] w249 := H251.sub (List.Sublist.cons_cons _ (List.Sublist.cons_cons _ (List.Sublist.cons_cons _ (List.Sublist.cons_cons _ (List.Sublist.cons_cons _ (List.Sublist.cons_cons _ (List.Sublist.cons _ (List.Sublist.slnil))))))))
             have hlg := lgd (lg_out (i := ins.length) hx243) hb254
             have hwn := wnt_no hx243 (by omega)
             refine GL.fit (ts := [1, 3, 4, 5, 6, 7, 8, 9, 63, 64, 65]) (M' := [(1, pt p3 0), (3, .slice A25 n26 c27), (4, vi (txE v ins outs lt)), (5, pt p36 0), (6, vi (txE v ins outs lt)), (7, .slice A52 n53 c54), (8, vi (wnt outs j)), (9, .bool (decide (520 < (x242.lb.length : Int)))), (63, .slice B outs.length cb), (64, vi outs.length), (65, vi (j + 1))]) (by kernel_rfl) ?_
             refine GL.eq (M' := [(1, pt p3 0), (3, .slice A25 n26 c27), (4, vi (txE v ins outs lt)), (5, pt p36 0), (6, vi (txE v ins outs lt)), (7, .slice A52 n53 c54), (8, vi (wnt outs (j + 1))), (9, .bool (decide (lgP ins outs ins.length (j + 1)))), (63, .slice B outs.length cb), (64, vi outs.length), (65, vi (j + 1))]) (by (rw [hlg, hwn]) <;> rfl) ?_
             exact GL.again (j + 1) [1, 3, 4, 5, 6, 7, 8, 9, 63, 64, 65] rfl (by kernel_rfl) (by show outs.length - (j + 1) < outs.length - j; omega) ⟨by omega, H259⟩
           · skip
             have hb257f := of_decide_eq_true hb257
             refine G.yes rfl ?_
             refine G.region ?_
             refine GL.r 1 1 [(1, pt p3 0), (3, .slice A25 n26 c27), (4, vi (txE v ins outs lt)), (5, pt p36 0), (6, vi (txE v ins outs lt)), (7, .slice A52 n53 c54), (8, li 4), (9, .bool (decide (520 < (x242.lb.length : Int)))), (63, .slice B outs.length cb), (64, vi outs.length), (65, vi j)] ?_
             refine GL.q hK239 ?_
             refine G.region ?_
             refine GL.r 2 2 [(1, pt p3 0), (3, .slice A25 n26 c27), (4, vi (txE v ins outs lt)), (5, pt p36 0), (6, vi (txE v ins outs lt)), (7, .slice A52 n53 c54), (8, li 4), (9, .bool (decide (520 < (x242.lb.length : Int)))), (63, .slice B outs.length cb), (64, vi outs.length), (65, li (IntKind.i64.wrap ((j : Int) + 1)))] ?_
             have e260 : (IntKind.i64.wrap ((j : Int) + 1)) = ((j + 1 : Nat) : Int) := by rw [in_i64 (by omega)]; omega
             rw [e260]
             clear e260
             have H261 : Hp w [] [.blk p3 [vw v, .slice A ins.length ca, .slice B outs.length cb, vw lt] 26, .row A25 n26 c27 5 1 (by8 (txO v ins outs lt)), .blk p36 (by8 (txH v ins outs lt)) 51, .row A45 ins.length c46 89 35 (insR ins), .row A47 outs.length c48 91 2 (outsR outs), .row A52 n53 c54 5 1 (by8 (txB v ins outs lt))] w249 := H251.sub (List.Sublist.cons_cons _ (List.Sublist.cons_cons _ (List.Sublist.cons_cons _ (List.Sublist.cons_cons _ (List.Sublist.cons_cons _ (List.Sublist.cons_cons _ (List.Sublist.cons _ (List.Sublist.slnil))))))))
             have hlg := lgd (lg_out (i := ins.length) hx243) hb254
             have hwn := wnt_yes hx243 (by omega)
             refine GL.fit (ts := [1, 3, 4, 5, 6, 7, 8, 9, 63, 64, 65]) (M' := [(1, pt p3 0), (3, .slice A25 n26 c27), (4, vi (txE v ins outs lt)), (5, pt p36 0), (6, vi (txE v ins outs lt)), (7, .slice A52 n53 c54), (8, li 4), (9, .bool (decide (520 < (x242.lb.length : Int)))), (63, .slice B outs.length cb), (64, vi outs.length), (65, vi (j + 1))]) (by kernel_rfl) ?_
             refine GL.eq (M' := [(1, pt p3 0), (3, .slice A25 n26 c27), (4, vi (txE v ins outs lt)), (5, pt p36 0), (6, vi (txE v ins outs lt)), (7, .slice A52 n53 c54), (8, vi (wnt outs (j + 1))), (9, .bool (decide (lgP ins outs ins.length (j + 1)))), (63, .slice B outs.length cb), (64, vi outs.length), (65, vi (j + 1))]) (by (rw [hlg, hwn]) <;> rfl) ?_
             exact GL.again (j + 1) [1, 3, 4, 5, 6, 7, 8, 9, 63, 64, 65] rfl (by kernel_rfl) (by show outs.length - (j + 1) < outs.length - j; omega) ⟨by omega, H261⟩
         · skip
           have hb254f := of_decide_eq_true hb254
           refine GL.r 8 6 [(1, pt p3 0), (3, .slice A25 n26 c27), (4, vi (txE v ins outs lt)), (5, pt p36 0), (6, vi (txE v ins outs lt)), (7, .slice A52 n53 c54), (8, vi (wnt outs j)), (9, .bool true), (13, pt p245 0), (63, .slice B outs.length cb), (64, vi outs.length), (65, vi j)] ?_
           refine GL.q hK253 ?_
           refine G.sr fun K262 hK263 => ?_
           refine GL.r 1 1 [(1, pt p3 0), (3, .slice A25 n26 c27), (4, vi (txE v ins outs lt)), (5, pt p36 0), (6, vi (txE v ins outs lt)), (7, .slice A52 n53 c54), (8, vi (wnt outs j)), (9, .bool true), (63, .slice B outs.length cb), (64, vi outs.length), (65, vi j), (76, pt p245 0)] ?_
           refine GL.s 2 (H251.ld (o := 0) (ty := 32) (v := vu x242.pv) 6 rfl (by kernel_rfl) rfl) [(1, pt p3 0), (3, .slice A25 n26 c27), (4, vi (txE v ins outs lt)), (5, pt p36 0), (6, vi (txE v ins outs lt)), (7, .slice A52 n53 c54), (8, vi (wnt outs j)), (9, .bool true), (63, .slice B outs.length cb), (64, vi outs.length), (65, vi j), (77, vu x242.pv)] ?_
           refine GL.r 3 1 [(1, pt p3 0), (3, .slice A25 n26 c27), (4, vi (txE v ins outs lt)), (5, pt p36 0), (6, vi (txE v ins outs lt)), (7, .slice A52 n53 c54), (8, vi (wnt outs j)), (9, .bool true), (63, .slice B outs.length cb), (64, vi outs.length), (65, vi j), (78, .bool (decide (4611686018427387904 < (x242.pv : Int))))] ?_
           refine GL.q hK263 ?_
           cases hb264 : (decide (4611686018427387904 < (x242.pv : Int)))
           · skip
             have hb264f := of_decide_eq_false hb264
             refine G.no rfl ?_
             refine G.skipK hK239 (fun _ _ h => h) ?_
             refine G.region ?_
             refine GL.r 2 2 [(1, pt p3 0), (3, .slice A25 n26 c27), (4, vi (txE v ins outs lt)), (5, pt p36 0), (6, vi (txE v ins outs lt)), (7, .slice A52 n53 c54), (8, vi (wnt outs j)), (9, .bool true), (63, .slice B outs.length cb), (64, vi outs.length), (65, li (IntKind.i64.wrap ((j : Int) + 1)))] ?_
             have e265 : (IntKind.i64.wrap ((j : Int) + 1)) = ((j + 1 : Nat) : Int) := by rw [in_i64 (by omega)]; omega
             rw [e265]
             clear e265
             have H266 : Hp w [] [.blk p3 [vw v, .slice A ins.length ca, .slice B outs.length cb, vw lt] 26, .row A25 n26 c27 5 1 (by8 (txO v ins outs lt)), .blk p36 (by8 (txH v ins outs lt)) 51, .row A45 ins.length c46 89 35 (insR ins), .row A47 outs.length c48 91 2 (outsR outs), .row A52 n53 c54 5 1 (by8 (txB v ins outs lt))] w249 := H251.sub (List.Sublist.cons_cons _ (List.Sublist.cons_cons _ (List.Sublist.cons_cons _ (List.Sublist.cons_cons _ (List.Sublist.cons_cons _ (List.Sublist.cons_cons _ (List.Sublist.cons _ (List.Sublist.slnil))))))))
             have hlg := lgt (lg_out (i := ins.length) hx243) hb254
             have hwn := wnt_no hx243 (by omega)
             refine GL.fit (ts := [1, 3, 4, 5, 6, 7, 8, 9, 63, 64, 65]) (M' := [(1, pt p3 0), (3, .slice A25 n26 c27), (4, vi (txE v ins outs lt)), (5, pt p36 0), (6, vi (txE v ins outs lt)), (7, .slice A52 n53 c54), (8, vi (wnt outs j)), (9, .bool true), (63, .slice B outs.length cb), (64, vi outs.length), (65, vi (j + 1))]) (by kernel_rfl) ?_
             refine GL.eq (M' := [(1, pt p3 0), (3, .slice A25 n26 c27), (4, vi (txE v ins outs lt)), (5, pt p36 0), (6, vi (txE v ins outs lt)), (7, .slice A52 n53 c54), (8, vi (wnt outs (j + 1))), (9, .bool (decide (lgP ins outs ins.length (j + 1)))), (63, .slice B outs.length cb), (64, vi outs.length), (65, vi (j + 1))]) (by (rw [hlg, hwn]) <;> rfl) ?_
             exact GL.again (j + 1) [1, 3, 4, 5, 6, 7, 8, 9, 63, 64, 65] rfl (by kernel_rfl) (by show outs.length - (j + 1) < outs.length - j; omega) ⟨by omega, H266⟩
           · skip
             have hb264f := of_decide_eq_true hb264
             refine G.yes rfl ?_
             refine G.region ?_
             refine GL.r 1 1 [(1, pt p3 0), (3, .slice A25 n26 c27), (4, vi (txE v ins outs lt)), (5, pt p36 0), (6, vi (txE v ins outs lt)), (7, .slice A52 n53 c54), (8, li 4), (9, .bool true), (63, .slice B outs.length cb), (64, vi outs.length), (65, vi j)] ?_
             refine GL.q hK239 ?_
             refine G.region ?_
             refine GL.r 2 2 [(1, pt p3 0), (3, .slice A25 n26 c27), (4, vi (txE v ins outs lt)), (5, pt p36 0), (6, vi (txE v ins outs lt)), (7, .slice A52 n53 c54), (8, li 4), (9, .bool true), (63, .slice B outs.length cb), (64, vi outs.length), (65, li (IntKind.i64.wrap ((j : Int) + 1)))] ?_
             have e267 : (IntKind.i64.wrap ((j : Int) + 1)) = ((j + 1 : Nat) : Int) := by rw [in_i64 (by omega)]; omega
             rw [e267]
             clear e267
             have H268 : Hp w [] [.blk p3 [vw v, .slice A ins.length ca, .slice B outs.length cb, vw lt] 26, .row A25 n26 c27 5 1 (by8 (txO v ins outs lt)), .blk p36 (by8 (txH v ins outs lt)) 51, .row A45 ins.length c46 89 35 (insR ins), .row A47 outs.length c48 91 2 (outsR outs), .row A52 n53 c54 5 1 (by8 (txB v ins outs lt))] w249 := H251.sub (List.Sublist.cons_cons _ (List.Sublist.cons_cons _ (List.Sublist.cons_cons _ (List.Sublist.cons_cons _ (List.Sublist.cons_cons _ (List.Sublist.cons_cons _ (List.Sublist.cons _ (List.Sublist.slnil))))))))
             have hlg := lgt (lg_out (i := ins.length) hx243) hb254
             have hwn := wnt_yes hx243 (by omega)
             refine GL.fit (ts := [1, 3, 4, 5, 6, 7, 8, 9, 63, 64, 65]) (M' := [(1, pt p3 0), (3, .slice A25 n26 c27), (4, vi (txE v ins outs lt)), (5, pt p36 0), (6, vi (txE v ins outs lt)), (7, .slice A52 n53 c54), (8, li 4), (9, .bool true), (63, .slice B outs.length cb), (64, vi outs.length), (65, vi (j + 1))]) (by kernel_rfl) ?_
             refine GL.eq (M' := [(1, pt p3 0), (3, .slice A25 n26 c27), (4, vi (txE v ins outs lt)), (5, pt p36 0), (6, vi (txE v ins outs lt)), (7, .slice A52 n53 c54), (8, vi (wnt outs (j + 1))), (9, .bool (decide (lgP ins outs ins.length (j + 1)))), (63, .slice B outs.length cb), (64, vi outs.length), (65, vi (j + 1))]) (by (rw [hlg, hwn]) <;> rfl) ?_
             exact GL.again (j + 1) [1, 3, 4, 5, 6, 7, 8, 9, 63, 64, 65] rfl (by kernel_rfl) (by show outs.length - (j + 1) < outs.length - j; omega) ⟨by omega, H268⟩
     · skip
       have hb80f := of_decide_eq_true hb80
       refine G.yes rfl ?_
       refine G.skipK hK79 (fun _ _ h => h) ?_
       refine G.seqK fun K269 hK270 => ?_
       refine G.block ?_
       refine G.sr fun K271 hK272 => ?_
       obtain ⟨x273, hx274⟩ : ∃ x, ins[i]? = some x := ⟨_, List.getElem?_eq_getElem (by omega)⟩
       have hok275 := hI x273 (List.mem_of_getElem? hx274)
       refine GL.s 1 (run_idxRdN (P := Try.prog) (k := .i64) (t := 23) (sz := 35) (A := A) (len := ins.length) (cap := ca) (j := i) (by kernel_rfl) rfl (hIns.hp H75) (insC_length (fun x_ h_ => (hI x_ h_).1)) (by decide) (by omega)) [(1, pt p3 0), (3, .slice A25 n26 c27), (4, vi (txE v ins outs lt)), (5, pt p36 0), (6, vi (txE v ins outs lt)), (7, .slice A52 n53 c54), (8, li 0), (9, .bool (decide (lgP ins outs i 0))), (48, .slice A ins.length ca), (49, vi ins.length), (50, vi i), (52, .pointer (Option.map (fun x => Addr.add x (i * 35)) A))] ?_
       refine GL.s 2 (run_ldRdA (P := Try.prog) (ty := 53) (A := A) (o := (i * 35)) (m := 35) (sub := x273.cells) (by kernel_rfl) (hIns.hp H75) (insC_cut (fun x_ h_ => (hI x_ h_).1) hx274) (TIn.cells_length hok275.1) (by decide)) [(1, pt p3 0), (3, .slice A25 n26 c27), (4, vi (txE v ins outs lt)), (5, pt p36 0), (6, vi (txE v ins outs lt)), (7, .slice A52 n53 c54), (8, li 0), (9, .bool (decide (lgP ins outs i 0))), (48, .slice A ins.length ca), (49, vi ins.length), (50, vi i), (53, .agg (x273.cells).toArray)] ?_
       obtain ⟨p276, w277, r278, H279⟩ := H75.alloc (P := Try.prog) 53 (TIn.nil.cells) (by kernel_rfl)
       refine GL.s 3 (r278) [(1, pt p3 0), (3, .slice A25 n26 c27), (4, vi (txE v ins outs lt)), (5, pt p36 0), (6, vi (txE v ins outs lt)), (7, .slice A52 n53 c54), (8, li 0), (9, .bool (decide (lgP ins outs i 0))), (11, pt p276 0), (48, .slice A ins.length ca), (49, vi ins.length), (50, vi i), (53, .agg (x273.cells).toArray)] ?_
       obtain ⟨w280, r281, H282⟩ := H279.stA (P := Try.prog) (o := 0) (vs := x273.cells) (ty := 53) (m := 35) 6 rfl (by kernel_rfl) (TIn.cells_length hok275.1) (by rw [Nat.zero_add, TIn.cells_length rfl]; exact Nat.le_refl _) TIn.cells_one
       rw [tx_whole (TIn.cells_length rfl)] at H282
       refine GL.u 4 r281 [(1, pt p3 0), (3, .slice A25 n26 c27), (4, vi (txE v ins outs lt)), (5, pt p36 0), (6, vi (txE v ins outs lt)), (7, .slice A52 n53 c54), (8, li 0), (9, .bool (decide (lgP ins outs i 0))), (11, pt p276 0), (48, .slice A ins.length ca), (49, vi ins.length), (50, vi i)] ?_
       refine GL.q hK272 ?_
       refine G.region ?_
       refine GL.r 2 2 [(1, pt p3 0), (3, .slice A25 n26 c27), (4, vi (txE v ins outs lt)), (5, pt p36 0), (6, vi (txE v ins outs lt)), (7, .slice A52 n53 c54), (8, li 0), (11, pt p276 0), (48, .slice A ins.length ca), (49, vi ins.length), (50, vi i), (55, .bool (decide (lgP ins outs i 0)))] ?_
       cases hb283 : (decide (lgP ins outs i 0))
       · skip
         have hb283f := of_decide_eq_false hb283
         refine GL.r 3 1 [(1, pt p3 0), (3, .slice A25 n26 c27), (4, vi (txE v ins outs lt)), (5, pt p36 0), (6, vi (txE v ins outs lt)), (7, .slice A52 n53 c54), (8, li 0), (48, .slice A ins.length ca), (49, vi ins.length), (50, vi i), (55, .bool false), (56, pt p276 33)] ?_
         refine GL.s 4 (H282.ld (o := 33) (ty := 38) (v := .slice x273.B x273.kb.length x273.kc) 6 rfl (by kernel_rfl) (TIn.cells_key hok275.1)) [(1, pt p3 0), (3, .slice A25 n26 c27), (4, vi (txE v ins outs lt)), (5, pt p36 0), (6, vi (txE v ins outs lt)), (7, .slice A52 n53 c54), (8, li 0), (48, .slice A ins.length ca), (49, vi ins.length), (50, vi i), (55, .bool false), (57, .slice x273.B x273.kb.length x273.kc)] ?_
         refine GL.r 8 4 [(1, pt p3 0), (3, .slice A25 n26 c27), (4, vi (txE v ins outs lt)), (5, pt p36 0), (6, vi (txE v ins outs lt)), (7, .slice A52 n53 c54), (8, li 0), (9, .bool (decide (520 < (x273.kb.length : Int)))), (48, .slice A ins.length ca), (49, vi ins.length), (50, vi i)] ?_
         refine GL.q hK270 ?_
         refine G.region ?_
         refine GL.r 2 2 [(1, pt p3 0), (3, .slice A25 n26 c27), (4, vi (txE v ins outs lt)), (5, pt p36 0), (6, vi (txE v ins outs lt)), (7, .slice A52 n53 c54), (8, li 0), (9, .bool (decide (520 < (x273.kb.length : Int)))), (48, .slice A ins.length ca), (49, vi ins.length), (50, li (IntKind.i64.wrap ((i : Int) + 1)))] ?_
         have e284 : (IntKind.i64.wrap ((i : Int) + 1)) = ((i + 1 : Nat) : Int) := by rw [in_i64 (by omega)]; omega
         rw [e284]
         clear e284
         have H285 : Hp w [] [.blk p3 [vw v, .slice A ins.length ca, .slice B outs.length cb, vw lt] 26, .row A25 n26 c27 5 1 (by8 (txO v ins outs lt)), .blk p36 (by8 (txH v ins outs lt)) 51, .row A45 ins.length c46 89 35 (insR ins), .row A47 outs.length c48 91 2 (outsR outs), .row A52 n53 c54 5 1 (by8 (txB v ins outs lt))] w280 := H282.sub (List.Sublist.cons_cons _ (List.Sublist.cons_cons _ (List.Sublist.cons_cons _ (List.Sublist.cons_cons _ (List.Sublist.cons_cons _ (List.Sublist.cons_cons _ (List.Sublist.cons _ (List.Sublist.slnil))))))))
         have hlg := lgd (lg_in (j := 0) hx274) hb283
         refine GL.fit (ts := [1, 3, 4, 5, 6, 7, 8, 9, 48, 49, 50]) (M' := [(1, pt p3 0), (3, .slice A25 n26 c27), (4, vi (txE v ins outs lt)), (5, pt p36 0), (6, vi (txE v ins outs lt)), (7, .slice A52 n53 c54), (8, li 0), (9, .bool (decide (520 < (x273.kb.length : Int)))), (48, .slice A ins.length ca), (49, vi ins.length), (50, vi (i + 1))]) (by kernel_rfl) ?_
         refine GL.eq (M' := [(1, pt p3 0), (3, .slice A25 n26 c27), (4, vi (txE v ins outs lt)), (5, pt p36 0), (6, vi (txE v ins outs lt)), (7, .slice A52 n53 c54), (8, li 0), (9, .bool (decide (lgP ins outs (i + 1) 0))), (48, .slice A ins.length ca), (49, vi ins.length), (50, vi (i + 1))]) (by rw [hlg]) ?_
         exact GL.again (i + 1) [1, 3, 4, 5, 6, 7, 8, 9, 48, 49, 50] rfl (by kernel_rfl) (by show ins.length - (i + 1) < ins.length - i; omega) ⟨by omega, H285⟩
       · skip
         have hb283f := of_decide_eq_true hb283
         refine GL.r 8 6 [(1, pt p3 0), (3, .slice A25 n26 c27), (4, vi (txE v ins outs lt)), (5, pt p36 0), (6, vi (txE v ins outs lt)), (7, .slice A52 n53 c54), (8, li 0), (9, .bool true), (48, .slice A ins.length ca), (49, vi ins.length), (50, vi i)] ?_
         refine GL.q hK270 ?_
         refine G.region ?_
         refine GL.r 2 2 [(1, pt p3 0), (3, .slice A25 n26 c27), (4, vi (txE v ins outs lt)), (5, pt p36 0), (6, vi (txE v ins outs lt)), (7, .slice A52 n53 c54), (8, li 0), (9, .bool true), (48, .slice A ins.length ca), (49, vi ins.length), (50, li (IntKind.i64.wrap ((i : Int) + 1)))] ?_
         have e286 : (IntKind.i64.wrap ((i : Int) + 1)) = ((i + 1 : Nat) : Int) := by rw [in_i64 (by omega)]; omega
         rw [e286]
         clear e286
         have H287 : Hp w [] [.blk p3 [vw v, .slice A ins.length ca, .slice B outs.length cb, vw lt] 26, .row A25 n26 c27 5 1 (by8 (txO v ins outs lt)), .blk p36 (by8 (txH v ins outs lt)) 51, .row A45 ins.length c46 89 35 (insR ins), .row A47 outs.length c48 91 2 (outsR outs), .row A52 n53 c54 5 1 (by8 (txB v ins outs lt))] w280 := H282.sub (List.Sublist.cons_cons _ (List.Sublist.cons_cons _ (List.Sublist.cons_cons _ (List.Sublist.cons_cons _ (List.Sublist.cons_cons _ (List.Sublist.cons_cons _ (List.Sublist.cons _ (List.Sublist.slnil))))))))
         have hlg := lgt (lg_in (j := 0) hx274) hb283
         refine GL.fit (ts := [1, 3, 4, 5, 6, 7, 8, 9, 48, 49, 50]) (M' := [(1, pt p3 0), (3, .slice A25 n26 c27), (4, vi (txE v ins outs lt)), (5, pt p36 0), (6, vi (txE v ins outs lt)), (7, .slice A52 n53 c54), (8, li 0), (9, .bool true), (48, .slice A ins.length ca), (49, vi ins.length), (50, vi (i + 1))]) (by kernel_rfl) ?_
         refine GL.eq (M' := [(1, pt p3 0), (3, .slice A25 n26 c27), (4, vi (txE v ins outs lt)), (5, pt p36 0), (6, vi (txE v ins outs lt)), (7, .slice A52 n53 c54), (8, li 0), (9, .bool (decide (lgP ins outs (i + 1) 0))), (48, .slice A ins.length ca), (49, vi ins.length), (50, vi (i + 1))]) (by rw [hlg]) ?_
         exact GL.again (i + 1) [1, 3, 4, 5, 6, 7, 8, 9, 48, 49, 50] rfl (by kernel_rfl) (by show ins.length - (i + 1) < ins.length - i; omega) ⟨by omega, H287⟩
end Go.Proofs.Ytcedmbdahbdmaaa
namespace Go.Proofs.Ytcedmbdahbdmaaa
open Go.ChangeShapes Go.WideShapes Go.ChangeAt Go.RowKit
open Go.ChangeMaps (open_string shut_string)
set_option linter.unusedVariables false
theorem txBytes_own : ownKnob Try.prog.godebug = none := by kernel_rfl
theorem txBytes_laidOut : laidOutB Try.prog = true := by kernel_rfl
set_option maxRecDepth 100000 in
theorem txBytes_lifted (os : Os) (started : os.Started) (H : Type) (enc : TypeId × Value → H) :
   ReturnsInHanded {} Try.checked os 6 .any (Rows.txBytesSpec.pre6 enc Try.prog Try.f6 Rows.txBytesRow.domain false) (Rows.txBytesSpec.post enc Try.prog Try.f6 false true false false) := by
 refine returnsInHanded_of_change (C := Try.checked) txBytes_own started (by kernel_rfl) Try.func6
   (ChangeSpec.witness6 (enc := enc) (C := Try.checked) false ⟨#[], #[.agg #[.int .u32 0, .slice none 0 0, .slice none 0 0, .int .u32 0]], []⟩ 12 (by kernel_rfl) (by kernel_rfl) (by kernel_rfl) (by kernel_rfl)) ?_
 intro W base args ds gs before hval0 hW hcnd _
 have hval : ∀ (j : Nat) t v, Try.f6.params[j]? = some t → args[j]? = some v → Value.okWide Try.prog W .any base t v := hval0
 have hW' := hW
 obtain ⟨p, q, hA0, hV, rfl, hfz, hnd⟩ := hW
 have hA : DataW.TrodAll enc Try.prog W 0 (fun _ => true) true Try.f6.params.toList args.toList ds p := hA0
 rw [Try.params6] at hA hval
 obtain ⟨v0, vs0, d0, ds0, p0, q0, hargs, rfl, rfl, h0, r0⟩ := trodAll_cons hA
 obtain ⟨rfl, rfl, rfl⟩ := trodAll_nil r0
 obtain rfl : args = #[v0] := by cases args; simp_all
 obtain ⟨rfl, rfl⟩ := trodVars_none hV
 have k0 := h0
 have lt0 : ∀ x ∈ p0, x.block < W.heap.size := by obtain ⟨m, hm⟩ := k0; exact DataW.trod_lt m _ _ _ hm
 obtain ⟨cs0, rfl, hl0⟩ := open_agg (by kernel_rfl) (show Try.prog.cellsOf 26 = 4 by kernel_rfl) (hval 0 26 _ rfl rfl)
 obtain ⟨fu0, hf0⟩ := h0
 have lv0 := open_leaves 1 (by rw [List.toList_toArray] at *; exact hl0.trans (show Try.prog.cellsOf 26 = 4 by kernel_rfl).symm) (by kernel_rfl) hf0 (ls := [(0, 22), (1, 23), (2, 24), (3, 22)]) (by kernel_rfl)
 obtain ⟨v_0, g0_0, hv_0⟩ := (lv0 (0, 22) (by simp)).u32' Try.underlying22
 obtain ⟨lt_0, g3_0, hlt_0⟩ := (lv0 (3, 22) (by simp)).u32' Try.underlying22
 obtain ⟨mi0, yi0, hyi0⟩ := lv0 (1, 23) (by simp)
 obtain ⟨mo0, yo0, hyo0⟩ := lv0 (2, 24) (by simp)
 obtain ⟨A_0, ins_0, ca_0, hci0, hIns_0, hna0, hma0, hI_0⟩ := open_ins Try.underlying23 (by kernel_rfl) (by kernel_rfl) (by kernel_rfl) Try.underlying5 Try.underlying22 Try.underlying38 Try.underlying22 Try.underlying5 (by kernel_rfl) hyi0
 obtain ⟨B_0, outs_0, cb_0, hco0, hOuts_0, hnb0, hmb0, hO_0⟩ := open_outs Try.underlying24 (by kernel_rfl) (by kernel_rfl) (by kernel_rfl) Try.underlying32 Try.underlying38 Try.underlying5 (by kernel_rfl) hyo0
 obtain rfl := four_of hl0 g0_0 (one_cell hci0) (one_cell hco0) g3_0
 clear hA0 hval0
 refine (TxBytes_calls v_0 ins_0 A_0 ca_0 outs_0 B_0 cb_0 lt_0 W hv_0 hlt_0 hIns_0 hI_0 hOuts_0 hO_0 (Nat.le_trans hna0 hma0) (Nat.le_trans hnb0 hmb0)).mono fun e W' ⟨he, hh⟩ => ?_
 have bel := hh.below
 subst he
 exact ⟨_, rfl, _, _, _, [], _, [], hW', trodAll_mk1 (shut_bool Try.underlying4 _), (trodAll_cons_mk (Below.trod txBytes_laidOut (by kernel_rfl) (of_decide_eq_true (by kernel_rfl)) k0 bel lt0) trodAll_mk0), rfl, bel.frame _, fun h => by cases h⟩
theorem txBytes_over : Rows.txBytesRow.holds Try.pinned (OpenSpec.ofChange Rows.txBytesSpec) :=
 OpenClaim.holds_of_wide 6 Try.f6 rfl rfl rfl rfl rfl rfl rfl ⟨rfl, rfl, rfl, rfl, rfl⟩ rfl rfl rfl rfl rfl (by kernel_rfl) Try.func6 (by kernel_rfl)
   (of_decide_eq_true (by kernel_rfl)) (by unfold Func.isWrapper; first | (rw [if_pos (by decide +kernel)]; kernel_rfl) | (rw [if_neg (by decide +kernel)]; exact ⟨rfl, rfl⟩))
   (fun os started H enc _ => txBytes_lifted os started H enc)
theorem txBytes_proved : Rows.TxBytesSaid := txBytes_over
end Go.Proofs.Ytcedmbdahbdmaaa
