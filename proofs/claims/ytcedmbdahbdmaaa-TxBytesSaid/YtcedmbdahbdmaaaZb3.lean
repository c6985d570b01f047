/- Part 3 of what txBytes_proved stands on. -/
import Derived.Test.YtcedmbdahbdmaaaZb2
set_option linter.unusedVariables false
set_option maxRecDepth 100000
namespace Go.Proofs.Ytcedmbdahbdmaaa
open Go.RowKit
def InB (Bs : List (Option Addr × Nat × Nat × TypeId × List Value)) (x : TIn) : Prop := x.fr.length = 32 ∧ x.ix < 4294967296 ∧ x.sq < 4294967296 ∧ (x.B, x.kb.length, x.kc, (5 : TypeId), by8 x.kb) ∈ Bs ∧ x.kb.length ≤ 520
def OutB (Bs : List (Option Addr × Nat × Nat × TypeId × List Value)) (x : TOut) : Prop := x.pv < 18446744073709551616 ∧ (x.B, x.lb.length, x.lc, (5 : TypeId), by8 x.lb) ∈ Bs ∧ x.lb.length ≤ 520
section
variable {w0 w : World} {S : List Nat} {L A' B' : List Ent} {Bs : List (Option Addr × Nat × Nat × TypeId × List Value)}
theorem InB.ok {x : TIn} (h : InB Bs x) (H : Hp w0 S L w) (i : Nat) (hL : L[i]? = some (.bag Bs)) : x.Ok w [] := by
 obtain ⟨a, _, c⟩ := H.bagLe i hL h.2.2.2.1
 exact ⟨h.1, h.2.1, h.2.2.1, RdO.of (H.bagRd i hL h.2.2.2.1), a, c⟩
theorem OutB.ok {x : TOut} (h : OutB Bs x) (H : Hp w0 S L w) (i : Nat) (hL : L[i]? = some (.bag Bs)) : x.Ok w [] := by
 obtain ⟨a, _, c⟩ := H.bagLe i hL h.2.1
 exact ⟨h.1, RdO.of (H.bagRd i hL h.2.1), a, c⟩
theorem InB.more {x : TIn} {p : Option Addr × Nat × Nat × TypeId × List Value} (h : InB Bs x) : InB (p :: Bs) x := ⟨h.1, h.2.1, h.2.2.1, List.mem_cons_of_mem _ h.2.2.2.1, h.2.2.2.2⟩
theorem OutB.more {x : TOut} {p : Option Addr × Nat × Nat × TypeId × List Value} (h : OutB Bs x) : OutB (p :: Bs) x := ⟨h.1, List.mem_cons_of_mem _ h.2.1, h.2.2⟩
theorem insB_more {l : List TIn} {y : TIn} (h : ∀ x ∈ l, InB Bs x) (hy : y.fr.length = 32 ∧ y.ix < 4294967296 ∧ y.sq < 4294967296 ∧ y.kb.length ≤ 520) : ∀ x ∈ l ++ [y], InB ((y.B, y.kb.length, y.kc, 5, by8 y.kb) :: Bs) x := by
 intro x hx
 rcases List.mem_append.1 hx with hx | hx
 · exact (h x hx).more
 · simp only [List.mem_cons, List.not_mem_nil, or_false] at hx
   subst hx
   exact ⟨hy.1, hy.2.1, hy.2.2.1, List.mem_cons_self, hy.2.2.2⟩
theorem outsB_more {l : List TOut} {y : TOut} (h : ∀ x ∈ l, OutB Bs x) (hy : y.pv < 18446744073709551616 ∧ y.lb.length ≤ 520) : ∀ x ∈ l ++ [y], OutB ((y.B, y.lb.length, y.lc, 5, by8 y.lb) :: Bs) x := by
 intro x hx
 rcases List.mem_append.1 hx with hx | hx
 · exact (h x hx).more
 · simp only [List.mem_cons, List.not_mem_nil, or_false] at hx
   subst hx
   exact ⟨hy.1, List.mem_cons_self, hy.2⟩
end
theorem insC_snoc (l : List TIn) (x : TIn) : insC (l ++ [x]) = insC l ++ x.cells := by simp [insC]
theorem outsC_snoc (l : List TOut) (x : TOut) : outsC (l ++ [x]) = outsC l ++ x.cells := by simp [outsC]
theorem run_tinBuild {x : TIn} {X : List UInt8} {ix sq n c : Nat} {B : Option Addr} (h : x.fr.length = 32) (e : x.fr = X ∧ x.ix = ix ∧ x.B = B ∧ x.kb.length = n ∧ x.kc = c ∧ x.sq = sq) (w : World) : (Instr.build 53 #[(0, .agg (by8 X).toArray), (1, .int .u32 (ix : Int)), (2, .slice B n c), (3, .int .u32 (sq : Int))]).run Try.prog w = .ok (.agg x.cells.toArray) w := by
 obtain ⟨rfl, rfl, rfl, rfl, rfl, rfl⟩ := e
 obtain ⟨f, hf⟩ := fr_fun h
 rw [TIn.cells, hf]
 exact pev_run (by kernel_rfl) w
theorem Hp.madeTIn {w0 w : World} {S : List Nat} {L : List Ent} (H : Hp w0 S L w) (x : TIn) (h : x.fr.length = 32) :
   ∃ b w', (Instr.buildSlice 23 1 #[(0, .agg x.cells.toArray)]).run Try.prog w = .ok (.slice (some ⟨b, 0, none⟩) 1 1) w' ∧ Hp w0 S (L ++ [.blk b x.cells 53]) w' := by
 obtain ⟨f, hf⟩ := fr_fun h
 have e : x.cells = by8 ((List.range 32).map f) ++ [.int .u32 (x.ix : Int), .slice x.B x.kb.length x.kc, .int .u32 (x.sq : Int)] := by rw [TIn.cells, hf]
 rw [e]
 generalize x.ix = ix at *
 generalize x.sq = sq at *
 generalize x.kb.length = n at *
 generalize x.kc = c at *
 generalize x.B = B at *
 have hs : nev Try.prog (Instr.buildSlice 23 1 #[(0, Value.agg (by8 ((List.range 32).map f) ++ ([.int .u32 (ix : Int), .slice B n c, .int .u32 (sq : Int)] : List Value)).toArray)]) = some (Obj.cells (by8 ((List.range 32).map f) ++ ([.int .u32 (ix : Int), .slice B n c, .int .u32 (sq : Int)] : List Value)).toArray 53, fun r => some ((fun b_ => Value.slice (some ⟨b_, 0, none⟩) 1 1) r)) := by kernel_rfl
 obtain ⟨b, w', h1, h2⟩ := H.made _ (fun b_ => Value.slice (some ⟨b_, 0, none⟩) 1 1) _ _ hs
 exact ⟨b, w', h1, h2⟩
section
variable {bs q : List UInt8} {v lt n1 n2 : Nat} {ins : List TIn} {outs : List TOut} {z : Bool} {Bs Cs : List (Option Addr × Nat × Nat × TypeId × List Value)}
theorem psd_E (h : Psd bs v ins outs lt n1 n2 z q) (hI : ∀ x ∈ ins, InB Bs x) (hO : ∀ x ∈ outs, OutB Cs x) {v0 lt0 : Nat} {ins0 : List TIn} {outs0 : List TOut} (hV : VTx v0 ins0 outs0 lt0) (hb : bs = txB v0 ins0 outs0 lt0) : z = false ∧ q.length = 0 ∧ txE v ins outs lt = 0 := by
 obtain ⟨h1, h2, h3, h4, h5⟩ := h.on_ hV hb
 obtain ⟨_, hn, hm, _, hl1, hl2⟩ := hV
 have hx := (h.back h1 h2).1.symm.trans hb
 refine ⟨h1, h2, ?_⟩
 have hk : txK ins outs = 0 := txK_zero.2 ⟨by omega, by omega, by omega, fun x hx => (hI x hx).2.2.2.2, fun x hx => (hO x hx).2.2⟩
 rw [txE, if_neg (by omega), if_neg (by rw [hx]; omega), if_neg]
 rintro ⟨x, hx, hp⟩
 have := h5 x hx
 omega
theorem psd_ok (h : Psd bs v ins outs lt n1 n2 z q) (hv : v < 4294967296) (hlt : lt < 4294967296) (hI : ∀ x ∈ ins, InB Bs x) (hO : ∀ x ∈ outs, OutB Cs x) (hz : z = false) (hq : q.length = 0) (hE : txE v ins outs lt = 0) : bs = txB v ins outs lt ∧ VTx v ins outs lt := by
 have hk : txK ins outs = 0 := by
   unfold txE at hE
   split at hE
   · assumption
   · omega
 rw [txE, if_neg (by omega)] at hE
 obtain ⟨k1, k2, k3, k4, k5⟩ := txK_zero.1 hk
 have hl : ¬ (4096 < (txB v ins outs lt).length ∨ (txB v ins outs lt).length = 64) := fun hh => by rw [if_pos hh] at hE; cases hE
 rw [if_neg hl] at hE
 refine ⟨(h.back hz hq).1, ⟨hv, hlt, fun x hx => ⟨(hI x hx).1, (hI x hx).2.1, (hI x hx).2.2.1, k4 x hx⟩, fun x hx => ⟨(hO x hx).1, k5 x hx⟩⟩, by omega, by omega, fun x hx => ?_, by omega, by omega⟩
 refine Nat.not_lt.1 fun hp => ?_
 rw [if_pos ⟨x, hx, hp⟩] at hE
 cases hE
end
theorem Hash32_calls (A : Option Addr) (n c : Nat) (ys : List UInt8) (w : World) (hx : RdS w A (by8 ys)) (hn : n = ys.length) (ho : ys.length = 32 ∨ ys.length = 0) : Calls Try.prog 38 #[.slice A n c] w fun e w' => e = .returned (.agg (by8 (hsh ys)).toArray) ∧ Hp w [] [] w' := by
 subst hn
 refine calls_G (args := [.slice A ys.length c]) Try.func38 rfl Try.ntmps38 rfl ?_
 intro Q0 hRet hNor hPan
 have H := Hp.start w
 refine G.sr fun K1 hK2 => ?_
 obtain ⟨p3, w4, r5, H6⟩ := H.alloc (P := Try.prog) 51 (by8 (List.replicate 32 0)) (by kernel_rfl)
 refine GL.s 1 (r5) [(0, .slice A ys.length c), (2, pt p3 0)] ?_
 refine GL.q hK2 ?_
 refine G.sr fun K7 hK8 => ?_
 obtain ⟨p9, w10, r11, H12⟩ := H6.alloc (P := Try.prog) 51 (by8 (List.replicate 32 0)) (by kernel_rfl)
 refine GL.s 1 (r11) [(0, .slice A ys.length c), (2, pt p3 0), (3, pt p9 0)] ?_
 refine GL.q hK8 ?_
 refine G.sr fun K13 hK14 => ?_
 refine GL.r 2 2 [(2, pt p3 0), (3, pt p9 0), (4, .slice (some ⟨p9, 0, none⟩) 32 32), (5, .slice A ys.length c)] ?_
 obtain ⟨w15, r16, H17⟩ := H12.copyBlk (P := Try.prog) (o := 0) (n := 32) (c := 32) (m := ys.length) (d := c) (t := 38) (t2 := 38) (ty := 3) (ys := ys) 1 rfl (by kernel_rfl) (hx.hp H12) (rfl) (by omega) (by rw [by8_length, List.length_replicate]; omega)
 rw [hsh_copied ho] at H17
 refine GL.s 3 (r16) [(2, pt p3 0), (3, pt p9 0)] ?_
 refine GL.q hK14 ?_
 refine G.sr fun K18 hK19 => ?_
 refine GL.s 1 (H17.ldA (o := 0) (ty := 51) (m := 32) (sub := by8 (hsh ys)) 1 rfl (by kernel_rfl) (tx_sub (by rw [by8_length, hsh_length])) (by rw [by8_length, hsh_length])) [(2, pt p3 0), (7, .agg (by8 (hsh ys)).toArray)] ?_
 obtain ⟨w20, r21, H22⟩ := H17.stA (P := Try.prog) (o := 0) (vs := by8 (hsh ys)) (ty := 51) (m := 32) 0 rfl (by kernel_rfl) (by rw [by8_length, hsh_length]) (Nat.le_of_eq (by rw [Nat.zero_add]; exact ((show (by8 (List.replicate 32 0)).length = 32 from by rw [by8_length]; rfl)).symm)) (by8_one _)
 rw [tx_whole (by rw [by8_length]; rfl)] at H22
 refine GL.u 2 r21 [(2, pt p3 0)] ?_
 refine GL.q hK19 ?_
 refine G.ret fun F_ hF_ hM_ => hRet _ _ (bodyPost_1 rfl (RV.cell rfl (H22.ldA (o := 0) (ty := 51) (m := 32) (sub := by8 (hsh ys)) 0 rfl (by kernel_rfl) (tx_sub (by rw [by8_length, hsh_length])) (by rw [by8_length, hsh_length]))) ?_ F_ hF_ hM_)
 exact ⟨rfl, H22.sub (List.nil_sublist _)⟩
theorem TParse_calls (xs : List UInt8) (A : Option Addr) (n c : Nat) (w : World) (hx : RdS w A (by8 xs)) (hn : n = xs.length) (hb : xs.length ≤ 1000000) : Calls Try.prog 17 #[.slice A n c] w fun e w' => ∃ (v : Nat) (ins : List TIn) (A' : Option Addr) (ca : Nat) (outs : List TOut) (B' : Option Addr) (cb lt : Nat) (Bs Cs : List (Option Addr × Nat × Nat × TypeId × List Value)) (err : Nat), e = .returned (.tuple #[.agg #[.int .u32 (v : Int), .slice A' ins.length ca, .slice B' outs.length cb, .int .u32 (lt : Int)], .int .i64 (err : Int)]) ∧ Hp w [] [.row A' ins.length ca 53 35 (insC ins), .row B' outs.length cb 40 2 (outsC outs), .bag Bs, .bag Cs] w' ∧ (∀ x ∈ ins, InB Bs x) ∧ (∀ x ∈ outs, OutB Cs x) ∧ ((err = 0 ∧ xs = txB v ins outs lt ∧ VTx v ins outs lt) ∨ (err = 2 ∧ ins = [] ∧ outs = [] ∧ v = 0 ∧ lt = 0 ∧ NoTx xs)) := by
 subst hn
 refine calls_G (args := [.slice A xs.length c]) Try.func17 rfl Try.ntmps17 rfl ?_
 intro Q0 hRet hNor hPan
 have H := Hp.start w
 refine G.sr fun K1 hK2 => ?_
 obtain ⟨p3, w4, r5, H6⟩ := H.alloc (P := Try.prog) 26 [lw 0, .slice none 0 0, .slice none 0 0, lw 0] (by kernel_rfl)
 refine GL.s 1 (r5) [(0, .slice A xs.length c), (2, pt p3 0)] ?_
 refine GL.r 2 1 [(0, .slice A xs.length c), (2, pt p3 0)] ?_
 refine GL.q hK2 ?_
 refine G.seqK fun K7 hK8 => ?_
 refine G.sr fun K9 hK10 => ?_
 refine GL.r 3 3 [(0, .slice A xs.length c), (2, pt p3 0), (10, .bool (decide (4096 < (xs.length : Int))))] ?_
 refine GL.q hK10 ?_
 cases hb11 : (decide (4096 < (xs.length : Int)))
 · skip
   have hb11f := of_decide_eq_false hb11
   refine G.no rfl ?_
   refine G.skipK hK8 (fun _ _ h => h) ?_
   refine G.sr fun K12 hK13 => ?_
   refine GL.r 1 1 [(2, pt p3 0), (12, .slice A xs.length c)] ?_
   refine GL.call (j := 2) (Read_calls xs A xs.length c w4 (hx.hp H6) (rfl) (by omega)) (by kernel_rfl) rfl (fun e_ w19 hR => ?_)
   obtain ⟨p14, A15, c16, rfl, H18⟩ := hR
   have H17 : Hp w [] [.blk p3 [lw 0, .slice none 0 0, .slice none 0 0, lw 0] 26, .row A15 xs.length c16 5 1 (by8 xs), .blk p14 [.slice A15 xs.length c16, .bool false] 107] w19 := H6.callNew H18
   have hk20 : xs.length = xs.length := rfl
   have hc21 := (H17.rowLe 1 rfl).1
   refine ⟨_, rfl, [2, 13], [(2, pt p3 0), (13, pt p14 0)], by kernel_rfl, ?_⟩
   refine GL.r 3 1 [(2, pt p3 0), (4, pt p14 0)] ?_
   refine GL.q hK13 ?_
   refine G.sr fun K22 hK23 => ?_
   refine GL.r 1 1 [(2, pt p3 0), (4, pt p14 0), (14, pt p14 0)] ?_
   obtain ⟨z30, hz30⟩ : ∃ z_ : Bool, z_ = (!(rOK false xs 4)) := ⟨_, rfl⟩
   obtain ⟨q31, hq31⟩ : ∃ q_ : List UInt8, q_ = rR false xs 4 := ⟨_, rfl⟩
   obtain ⟨v32, hv32⟩ : ∃ v_ : List UInt8, v_ = rV false xs 4 := ⟨_, rfl⟩
   have h6q31 : q31.length ≤ 1000000 := by rw [hq31]; refine Nat.le_trans (rR_le _ _ _) ?_; first | exact (by omega) | (rw [← hk20]; exact (by omega))
   have hlv32 : v32.length ≤ 4 := by rw [hv32]; exact rV_le _ _ _
   have hbv32 : getB v32 < 4294967296 := Nat.lt_of_lt_of_le (getB_lt v32) (Nat.le_trans (Nat.pow_le_pow_right (by decide) hlv32) (by decide))
   have H33 := (Hp.reorder (L' := [.blk p14 [.slice A15 xs.length c16, .bool false] 107, .row A15 xs.length c16 5 1 (by8 xs), .blk p3 [lw 0, .slice none 0 0, .slice none 0 0, lw 0] 26]) H17 (List.Perm.trans (List.Perm.cons _ (List.Perm.swap _ _ _)) (List.Perm.trans (List.Perm.swap _ _ _) (List.Perm.cons _ (List.Perm.trans (List.Perm.swap _ _ _) (List.Perm.refl _))))))
   refine GL.call (j := 2) (Get4_calls (ids [.blk p14 [.slice A15 xs.length c16, .bool false] 107, .row A15 xs.length c16 5 1 (by8 xs)]) p14 A15 xs.length c16 false A15 xs.length c16 xs xs w19 (Hp.startL (A := [.blk p14 [.slice A15 xs.length c16, .bool false] 107, .row A15 xs.length c16 5 1 (by8 xs)]) (B := [.blk p3 [lw 0, .slice none 0 0, .slice none 0 0, lw 0] 26]) H33) (Cut.refl _ _) (hk20) (hc21) ((by omega))) (by kernel_rfl) rfl (fun e_ w34 hR => ?_)
   obtain ⟨A24, c25, rfl, H36, hC28, hL29⟩ := hR
   simp only [← hz30, ← hq31, ← hv32] at H36 hC28 hL29 ⊢
   have H35 : Hp w [] [.blk p14 [.slice A24 q31.length c25, .bool z30] 107, .row A15 xs.length c16 5 1 (by8 xs), .blk p3 [lw 0, .slice none 0 0, .slice none 0 0, lw 0] 26] w34 := Hp.callL (A := [.blk p14 [.slice A15 xs.length c16, .bool false] 107, .row A15 xs.length c16 5 1 (by8 xs)]) (B := [.blk p3 [lw 0, .slice none 0 0, .slice none 0 0, lw 0] 26]) H33 H36
   refine ⟨_, rfl, [2, 4, 15], [(2, pt p3 0), (4, pt p14 0), (15, vu (getB v32))], by kernel_rfl, ?_⟩
   refine GL.r 4 2 [(2, pt p3 0), (4, pt p14 0), (17, .agg #[lw (IntKind.u32.wrap (((getB v32) : Nat) : Int)), .slice none 0 0, .slice none 0 0, lw 0])] ?_
   have e37 : (IntKind.u32.wrap (((getB v32) : Nat) : Int)) = (((getB v32) : Nat) : Int) := in_u32 (by omega)
   rw [e37]
   clear e37
   obtain ⟨p38, w39, r40, H41⟩ := H35.alloc (P := Try.prog) 26 [lw 0, .slice none 0 0, .slice none 0 0, lw 0] (by kernel_rfl)
   refine GL.s 5 (r40) [(2, pt p3 0), (4, pt p14 0), (5, pt p38 0), (17, .agg #[vw (getB v32), .slice none 0 0, .slice none 0 0, lw 0])] ?_
   obtain ⟨w42, r43, H44⟩ := H41.stA (P := Try.prog) (o := 0) (vs := [vw (getB v32), .slice none 0 0, .slice none 0 0, lw 0]) (ty := 26) (m := 4) 3 rfl (by kernel_rfl) rfl (by simp) (by simp [Value.oneCell'])
   refine GL.u 6 r43 [(2, pt p3 0), (4, pt p14 0), (5, pt p38 0)] ?_
   refine GL.q hK23 ?_
   refine G.seqK fun K45 hK46 => ?_
   refine G.sr fun K47 hK48 => ?_
   refine GL.r 1 1 [(2, pt p3 0), (4, pt p14 0), (5, pt p38 0), (18, pt p14 0)] ?_
   obtain ⟨z55, hz55⟩ : ∃ z_ : Bool, z_ = (!(ctOK z30 q31 64)) := ⟨_, rfl⟩
   obtain ⟨q56, hq56⟩ : ∃ q_ : List UInt8, q_ = ctR z30 q31 64 := ⟨_, rfl⟩
   obtain ⟨v57, hv57⟩ : ∃ v_ : Nat, v_ = ctV z30 q31 64 := ⟨_, rfl⟩
   have h6q56 : q56.length ≤ 1000000 := by rw [hq56]; refine Nat.le_trans (ctR_le _ _ _) ?_; first | exact h6q31 | (rw [← rfl]; exact h6q31)
   have hlv57 : v57 ≤ 64 := by rw [hv57]; exact ctV_le _ _ _
   refine GL.call (j := 2) (RCount_calls (ids [.blk p14 [.slice A24 q31.length c25, .bool z30] 107, .row A15 xs.length c16 5 1 (by8 xs)]) p14 A24 q31.length c25 z30 A15 xs.length c16 xs q31 64 w42 (Hp.startL (A := [.blk p14 [.slice A24 q31.length c25, .bool z30] 107, .row A15 xs.length c16 5 1 (by8 xs)]) (B := [.blk p3 [lw 0, .slice none 0 0, .slice none 0 0, lw 0] 26, .blk p38 [vw (getB v32), .slice none 0 0, .slice none 0 0, lw 0] 26]) H44) hC28 (rfl) (hL29) (h6q31)) (by kernel_rfl) rfl (fun e_ w58 hR => ?_)
   obtain ⟨A49, c50, rfl, H60, hC53, hL54⟩ := hR
   simp only [← hz55, ← hq56, ← hv57] at H60 hC53 hL54 ⊢
   have H59 : Hp w [] [.blk p14 [.slice A49 q56.length c50, .bool z55] 107, .row A15 xs.length c16 5 1 (by8 xs), .blk p3 [lw 0, .slice none 0 0, .slice none 0 0, lw 0] 26, .blk p38 [vw (getB v32), .slice none 0 0, .slice none 0 0, lw 0] 26] w58 := Hp.callL (A := [.blk p14 [.slice A24 q31.length c25, .bool z30] 107, .row A15 xs.length c16 5 1 (by8 xs)]) (B := [.blk p3 [lw 0, .slice none 0 0, .slice none 0 0, lw 0] 26, .blk p38 [vw (getB v32), .slice none 0 0, .slice none 0 0, lw 0] 26]) H44 H60
   refine ⟨_, rfl, [2, 4, 5, 19], [(2, pt p3 0), (4, pt p14 0), (5, pt p38 0), (19, vu v57)], by kernel_rfl, ?_⟩
   refine GL.r 3 1 [(2, pt p3 0), (4, pt p14 0), (5, pt p38 0), (19, vu v57), (20, lu 0)] ?_
   refine GL.q hK48 ?_
   refine G.block ?_
   have H61 := (H59.rowNil 53 35).bagNil
   have hi64 : v57 ≤ 64 := hlv57
   refine G.fit [2, 4, 5, 19, 20] (M' := [(2, pt p3 0), (4, pt p14 0), (5, pt p38 0), (19, vu v57), (20, lu 0)]) (by kernel_rfl) ?_
   refine G.loop (X := Nat × Bool × List UInt8 × Option Addr × Nat × Option Addr × Nat × List TIn × List (Option Addr × Nat × Nat × TypeId × List Value)) (fun ⟨ki, zi, qi, Bi, bi, Ai, ci, ins, Gi⟩ => [(2, pt p3 0), (4, pt p14 0), (5, pt p38 0), (19, vu v57), (20, vu ki)]) (fun ⟨ki, zi, qi, Bi, bi, Ai, ci, ins, Gi⟩ w_ => ((ki ≤ v57 ∧ LOf TIn.bytes VIn (fun _ => 0) v57 z55 q56 ki zi qi ins) ∧ (∀ x ∈ ins, InB Gi x) ∧ Cut A15 xs Bi qi ∧ qi.length ≤ bi ∧ qi.length ≤ 1000000) ∧ Hp w [] [.blk p14 [.slice Bi qi.length bi, .bool zi] 107, .row A15 xs.length c16 5 1 (by8 xs), .blk p3 [lw 0, .slice none 0 0, .slice none 0 0, lw 0] 26, .blk p38 [vw (getB v32), .slice Ai ki ci, .slice none 0 0, lw 0] 26, .row Ai ki ci 53 35 (insC ins), .bag Gi] w_) (fun ⟨ki, zi, qi, Bi, bi, Ai, ci, ins, Gi⟩ => v57 - ki) ⟨0, z55, q56, A49, c50, none, 0, ([] : List TIn), ([] : List (Option Addr × Nat × Nat × TypeId × List Value))⟩ [2, 4, 5, 19, 20] (by kernel_rfl) ⟨⟨⟨Nat.zero_le _, LOf.zero⟩, (fun x_ h_ => by simp at h_), hC53, hL54, h6q56⟩, H61⟩ ?_
   rintro ⟨ki, zi, qi, Bi, bi, Ai, ci, ins, Gi⟩ w62 ⟨hi63, H64⟩
   refine G.eq (M' := [(2, pt p3 0), (4, pt p14 0), (5, pt p38 0), (19, vu v57), (20, vu ki)]) rfl ?_
   obtain ⟨⟨hin, hiL⟩, hiB, hiC, hic, hi6⟩ := hi63
   have hiLl := hiL.1
   refine G.sr fun K65 hK66 => ?_
   refine GL.r 1 1 [(2, pt p3 0), (4, pt p14 0), (5, pt p38 0), (19, vu v57), (20, vu ki), (21, .bool (decide ((ki : Int) < (v57 : Int))))] ?_
   refine GL.q hK66 ?_
   refine G.seqK fun K67 hK68 => ?_
   cases hb69 : (decide ((ki : Int) < (v57 : Int)))
   · skip
     have hb69f := of_decide_eq_false hb69
     subst hiLl
     have hiN : ins.length = v57 := by omega
     have hiP := hiL.done (.inl (by omega))
     refine G.no rfl ?_
     refine G.exitK hK46 (fun _ _ h => h) ?_
     refine G.seqK fun K70 hK71 => ?_
     refine G.sr fun K72 hK73 => ?_
     refine GL.r 1 1 [(2, pt p3 0), (4, pt p14 0), (5, pt p38 0), (40, pt p14 0)] ?_
     obtain ⟨z80, hz80⟩ : ∃ z_ : Bool, z_ = (!(ctOK zi qi 64)) := ⟨_, rfl⟩
     obtain ⟨q81, hq81⟩ : ∃ q_ : List UInt8, q_ = ctR zi qi 64 := ⟨_, rfl⟩
     obtain ⟨v82, hv82⟩ : ∃ v_ : Nat, v_ = ctV zi qi 64 := ⟨_, rfl⟩
     have h6q81 : q81.length ≤ 1000000 := by rw [hq81]; refine Nat.le_trans (ctR_le _ _ _) ?_; first | exact hi6 | (rw [← rfl]; exact hi6)
     have hlv82 : v82 ≤ 64 := by rw [hv82]; exact ctV_le _ _ _
     refine GL.call (j := 2) (RCount_calls (ids [.blk p14 [.slice Bi qi.length bi, .bool zi] 107, .row A15 xs.length c16 5 1 (by8 xs)]) p14 Bi qi.length bi zi A15 xs.length c16 xs qi 64 w62 (Hp.startL (A := [.blk p14 [.slice Bi qi.length bi, .bool zi] 107, .row A15 xs.length c16 5 1 (by8 xs)]) (B := [.blk p3 [lw 0, .slice none 0 0, .slice none 0 0, lw 0] 26, .blk p38 [vw (getB v32), .slice Ai ins.length ci, .slice none 0 0, lw 0] 26, .row Ai ins.length ci 53 35 (insC ins), .bag Gi]) H64) hiC (rfl) (hic) (hi6)) (by kernel_rfl) rfl (fun e_ w83 hR => ?_)
     obtain ⟨A74, c75, rfl, H85, hC78, hL79⟩ := hR
     simp only [← hz80, ← hq81, ← hv82] at H85 hC78 hL79 ⊢
     have H84 : Hp w [] [.blk p14 [.slice A74 q81.length c75, .bool z80] 107, .row A15 xs.length c16 5 1 (by8 xs), .blk p3 [lw 0, .slice none 0 0, .slice none 0 0, lw 0] 26, .blk p38 [vw (getB v32), .slice Ai ins.length ci, .slice none 0 0, lw 0] 26, .row Ai ins.length ci 53 35 (insC ins), .bag Gi] w83 := Hp.callL (A := [.blk p14 [.slice Bi qi.length bi, .bool zi] 107, .row A15 xs.length c16 5 1 (by8 xs)]) (B := [.blk p3 [lw 0, .slice none 0 0, .slice none 0 0, lw 0] 26, .blk p38 [vw (getB v32), .slice Ai ins.length ci, .slice none 0 0, lw 0] 26, .row Ai ins.length ci 53 35 (insC ins), .bag Gi]) H64 H85
     refine ⟨_, rfl, [2, 4, 5, 41], [(2, pt p3 0), (4, pt p14 0), (5, pt p38 0), (41, vu v82)], by kernel_rfl, ?_⟩
     refine GL.r 3 1 [(2, pt p3 0), (4, pt p14 0), (5, pt p38 0), (41, vu v82), (42, lu 0)] ?_
     refine GL.q hK73 ?_
     refine G.block ?_
     have H86 := (H84.rowNil 40 2).bagNil
     have ho64 : v82 ≤ 64 := hlv82
     refine G.fit [2, 4, 5, 41, 42] (M' := [(2, pt p3 0), (4, pt p14 0), (5, pt p38 0), (41, vu v82), (42, lu 0)]) (by kernel_rfl) ?_
     refine G.loop (X := Nat × Bool × List UInt8 × Option Addr × Nat × Option Addr × Nat × List TOut × List (Option Addr × Nat × Nat × TypeId × List Value)) (fun ⟨ko, zo, qo, Bo, bo, Ao, co, outs, Go⟩ => [(2, pt p3 0), (4, pt p14 0), (5, pt p38 0), (41, vu v82), (42, vu ko)]) (fun ⟨ko, zo, qo, Bo, bo, Ao, co, outs, Go⟩ w_ => ((ko ≤ v82 ∧ LOf TOut.bytes VOut TOut.pv v82 z80 q81 ko zo qo outs) ∧ (∀ x ∈ outs, OutB Go x) ∧ Cut A15 xs Bo qo ∧ qo.length ≤ bo ∧ qo.length ≤ 1000000) ∧ Hp w [] [.blk p14 [.slice Bo qo.length bo, .bool zo] 107, .row A15 xs.length c16 5 1 (by8 xs), .blk p3 [lw 0, .slice none 0 0, .slice none 0 0, lw 0] 26, .blk p38 [vw (getB v32), .slice Ai ins.length ci, .slice Ao ko co, lw 0] 26, .row Ai ins.length ci 53 35 (insC ins), .bag Gi, .row Ao ko co 40 2 (outsC outs), .bag Go] w_) (fun ⟨ko, zo, qo, Bo, bo, Ao, co, outs, Go⟩ => v82 - ko) ⟨0, z80, q81, A74, c75, none, 0, ([] : List TOut), ([] : List (Option Addr × Nat × Nat × TypeId × List Value))⟩ [2, 4, 5, 41, 42] (by kernel_rfl) ⟨⟨⟨Nat.zero_le _, LOf.zero⟩, (fun x_ h_ => by simp at h_), hC78, hL79, h6q81⟩, H86⟩ ?_
     rintro ⟨ko, zo, qo, Bo, bo, Ao, co, outs, Go⟩ w87 ⟨hi88, H89⟩
     refine G.eq (M' := [(2, pt p3 0), (4, pt p14 0), (5, pt p38 0), (41, vu v82), (42, vu ko)]) rfl ?_
     obtain ⟨⟨hon, hoL⟩, hoB, hoC, hoc, ho6⟩ := hi88
     have hoLl := hoL.1
     refine G.sr fun K90 hK91 => ?_
     refine GL.r 1 1 [(2, pt p3 0), (4, pt p14 0), (5, pt p38 0), (41, vu v82), (42, vu ko), (43, .bool (decide ((ko : Int) < (v82 : Int))))] ?_
     refine GL.q hK91 ?_
     refine G.seqK fun K92 hK93 => ?_
     cases hb94 : (decide ((ko : Int) < (v82 : Int)))
     · skip
       have hb94f := of_decide_eq_false hb94
       subst hoLl
       have hoN : outs.length = v82 := by omega
       have hoP := hoL.done (.inl (by omega))
       refine G.no rfl ?_
       refine G.exitK hK71 (fun _ _ h => h) ?_
       refine G.sr fun K95 hK96 => ?_
       refine GL.r 1 1 [(2, pt p3 0), (4, pt p14 0), (5, pt p38 0), (55, pt p14 0)] ?_
       obtain ⟨z103, hz103⟩ : ∃ z_ : Bool, z_ = (!(rOK zo qo 4)) := ⟨_, rfl⟩
       obtain ⟨q104, hq104⟩ : ∃ q_ : List UInt8, q_ = rR zo qo 4 := ⟨_, rfl⟩
       obtain ⟨v105, hv105⟩ : ∃ v_ : List UInt8, v_ = rV zo qo 4 := ⟨_, rfl⟩
       have h6q104 : q104.length ≤ 1000000 := by rw [hq104]; refine Nat.le_trans (rR_le _ _ _) ?_; first | exact ho6 | (rw [← rfl]; exact ho6)
       have hlv105 : v105.length ≤ 4 := by rw [hv105]; exact rV_le _ _ _
       have hbv105 : getB v105 < 4294967296 := Nat.lt_of_lt_of_le (getB_lt v105) (Nat.le_trans (Nat.pow_le_pow_right (by decide) hlv105) (by decide))
       refine GL.call (j := 2) (Get4_calls (ids [.blk p14 [.slice Bo qo.length bo, .bool zo] 107, .row A15 xs.length c16 5 1 (by8 xs)]) p14 Bo qo.length bo zo A15 xs.length c16 xs qo w87 (Hp.startL (A := [.blk p14 [.slice Bo qo.length bo, .bool zo] 107, .row A15 xs.length c16 5 1 (by8 xs)]) (B := [.blk p3 [lw 0, .slice none 0 0, .slice none 0 0, lw 0] 26, .blk p38 [vw (getB v32), .slice Ai ins.length ci, .slice Ao outs.length co, lw 0] 26, .row Ai ins.length ci 53 35 (insC ins), .bag Gi, .row Ao outs.length co 40 2 (outsC outs), .bag Go]) H89) hoC (rfl) (hoc) (ho6)) (by kernel_rfl) rfl (fun e_ w106 hR => ?_)
       obtain ⟨A97, c98, rfl, H108, hC101, hL102⟩ := hR
       simp only [← hz103, ← hq104, ← hv105] at H108 hC101 hL102 ⊢
       have H107 : Hp w [] [.blk p14 [.slice A97 q104.length c98, .bool z103] 107, .row A15 xs.length c16 5 1 (by8 xs), .blk p3 [lw 0, .slice none 0 0, .slice none 0 0, lw 0] 26, .blk p38 [vw (getB v32), .slice Ai ins.length ci, .slice Ao outs.length co, lw 0] 26, .row Ai ins.length ci 53 35 (insC ins), .bag Gi, .row Ao outs.length co 40 2 (outsC outs), .bag Go] w106 := Hp.callL (A := [.blk p14 [.slice Bo qo.length bo, .bool zo] 107, .row A15 xs.length c16 5 1 (by8 xs)]) (B := [.blk p3 [lw 0, .slice none 0 0, .slice none 0 0, lw 0] 26, .blk p38 [vw (getB v32), .slice Ai ins.length ci, .slice Ao outs.length co, lw 0] 26, .row Ai ins.length ci 53 35 (insC ins), .bag Gi, .row Ao outs.length co 40 2 (outsC outs), .bag Go]) H89 H108
       refine ⟨_, rfl, [2, 4, 5, 56], [(2, pt p3 0), (4, pt p14 0), (5, pt p38 0), (56, vu (getB v105))], by kernel_rfl, ?_⟩
       refine GL.r 4 2 [(2, pt p3 0), (4, pt p14 0), (5, pt p38 0), (57, lw (IntKind.u32.wrap (((getB v105) : Nat) : Int))), (58, pt p38 3)] ?_
       have e109 : (IntKind.u32.wrap (((getB v105) : Nat) : Int)) = (((getB v105) : Nat) : Int) := in_u32 (by omega)
       rw [e109]
       clear e109
       obtain ⟨w110, r111, H112⟩ := H107.st (P := Try.prog) (o := 3) (ty := 22) (v := vw (getB v105)) 3 rfl (by kernel_rfl) (by simp) rfl
       refine GL.u 5 r111 [(2, pt p3 0), (4, pt p14 0), (5, pt p38 0)] ?_
       refine GL.q hK96 ?_
       refine G.seqK fun K113 hK114 => ?_
       refine G.sr fun K115 hK116 => ?_
       refine GL.s 1 (H112.ldA (o := 0) (ty := 26) (m := 4) (sub := [vw (getB v32), .slice Ai ins.length ci, .slice Ao outs.length co, vw (getB v105)]) 3 rfl (by kernel_rfl) rfl rfl) [(2, pt p3 0), (4, pt p14 0), (5, pt p38 0), (60, .agg #[vw (getB v32), .slice Ai ins.length ci, .slice Ao outs.length co, vw (getB v105)])] ?_
       refine GL.call (j := 2) (TBytes_calls (getB v32) ins Ai ci outs Ao co (getB v105) w110 (by omega) (by omega) (H112.rdRowN 4 rfl) (fun x_ h_ => (hiB x_ h_).ok H112 5 rfl) (H112.rdRowN 6 rfl) (fun x_ h_ => (hoB x_ h_).ok H112 7 rfl) (by simp only [maxLen]; omega) (by simp only [maxLen]; omega)) (by kernel_rfl) rfl (fun e_ w120 hR => ?_)
       obtain ⟨A117, n118, c119, rfl, H122⟩ := hR
       have H121 : Hp w [] [.blk p14 [.slice A97 q104.length c98, .bool z103] 107, .row A15 xs.length c16 5 1 (by8 xs), .blk p3 [lw 0, .slice none 0 0, .slice none 0 0, lw 0] 26, .blk p38 [vw (getB v32), .slice Ai ins.length ci, .slice Ao outs.length co, vw (getB v105)] 26, .row Ai ins.length ci 53 35 (insC ins), .bag Gi, .row Ao outs.length co 40 2 (outsC outs), .bag Go, .row A117 n118 c119 5 1 (by8 (txO (getB v32) ins outs (getB v105)))] w120 := H112.callNew H122
       refine ⟨_, rfl, [2, 4, 5, 61], [(2, pt p3 0), (4, pt p14 0), (5, pt p38 0), (61, .tuple #[.slice A117 n118 c119, vi (txE (getB v32) ins outs (getB v105))])], by kernel_rfl, ?_⟩
       refine GL.r 7 5 [(2, pt p3 0), (4, pt p14 0), (5, pt p38 0), (7, vi (txE (getB v32) ins outs (getB v105)))] ?_
       refine GL.q hK116 ?_
       refine G.sr fun K123 hK124 => ?_
       refine GL.r 1 1 [(2, pt p3 0), (5, pt p38 0), (7, vi (txE (getB v32) ins outs (getB v105))), (64, pt p14 0)] ?_
       refine GL.call (j := 2) (End_calls (ids [.blk p14 [.slice A97 q104.length c98, .bool z103] 107, .row A15 xs.length c16 5 1 (by8 xs)]) p14 A97 q104.length c98 z103 A15 xs.length c16 xs q104 w120 (Hp.startL (A := [.blk p14 [.slice A97 q104.length c98, .bool z103] 107, .row A15 xs.length c16 5 1 (by8 xs)]) (B := [.blk p3 [lw 0, .slice none 0 0, .slice none 0 0, lw 0] 26, .blk p38 [vw (getB v32), .slice Ai ins.length ci, .slice Ao outs.length co, vw (getB v105)] 26, .row Ai ins.length ci 53 35 (insC ins), .bag Gi, .row Ao outs.length co 40 2 (outsC outs), .bag Go, .row A117 n118 c119 5 1 (by8 (txO (getB v32) ins outs (getB v105)))]) H121) (rfl)) (by kernel_rfl) rfl (fun e_ w125 hR => ?_)
       obtain ⟨rfl, H127⟩ := hR
       have H126 : Hp w [] [.blk p14 [.slice A97 q104.length c98, .bool z103] 107, .row A15 xs.length c16 5 1 (by8 xs), .blk p3 [lw 0, .slice none 0 0, .slice none 0 0, lw 0] 26, .blk p38 [vw (getB v32), .slice Ai ins.length ci, .slice Ao outs.length co, vw (getB v105)] 26, .row Ai ins.length ci 53 35 (insC ins), .bag Gi, .row Ao outs.length co 40 2 (outsC outs), .bag Go, .row A117 n118 c119 5 1 (by8 (txO (getB v32) ins outs (getB v105)))] w125 := Hp.callL (A := [.blk p14 [.slice A97 q104.length c98, .bool z103] 107, .row A15 xs.length c16 5 1 (by8 xs)]) (B := [.blk p3 [lw 0, .slice none 0 0, .slice none 0 0, lw 0] 26, .blk p38 [vw (getB v32), .slice Ai ins.length ci, .slice Ao outs.length co, vw (getB v105)] 26, .row Ai ins.length ci 53 35 (insC ins), .bag Gi, .row Ao outs.length co 40 2 (outsC outs), .bag Go, .row A117 n118 c119 5 1 (by8 (txO (getB v32) ins outs (getB v105)))]) H121 H127
       refine ⟨_, rfl, [2, 5, 7, 65], [(2, pt p3 0), (5, pt p38 0), (7, vi (txE (getB v32) ins outs (getB v105))), (65, .bool (endB z103 q104))], by kernel_rfl, ?_⟩
       refine GL.r 4 2 [(2, pt p3 0), (5, pt p38 0), (7, vi (txE (getB v32) ins outs (getB v105))), (67, .bool (!(endB z103 q104)))] ?_
       cases hb128 : (endB z103 q104)
       · skip
         refine GL.r 7 3 [(2, pt p3 0), (5, pt p38 0), (70, .bool true)] ?_
         refine GL.q hK124 ?_
         refine G.yes rfl ?_
         refine G.sr fun K129 hK130 => ?_
         refine GL.r 1 1 [(2, pt p3 0), (71, .agg #[lw 0, .slice none 0 0, .slice none 0 0, lw 0])] ?_
         obtain ⟨w131, r132, H133⟩ := H126.stA (P := Try.prog) (o := 0) (vs := [lw 0, .slice none 0 0, .slice none 0 0, lw 0]) (ty := 26) (m := 4) 2 rfl (by kernel_rfl) rfl (by simp) (by simp [Value.oneCell'])
         refine GL.u 2 r132 [(2, pt p3 0)] ?_
         refine GL.r 3 1 [(2, pt p3 0), (3, li 2)] ?_
         refine GL.q hK130 ?_
         refine G.ret fun F_ hF_ hM_ => hRet _ _ (bodyPost_2 rfl (RV.cell rfl (H133.ldA (o := 0) (ty := 26) (m := 4) (sub := [lw 0, .slice none 0 0, .slice none 0 0, lw 0]) 2 rfl (by kernel_rfl) rfl rfl)) (RV.tmp rfl) ?_ F_ hF_ hM_)
         have hP : Psd xs (getB v32) ins outs (getB v105) v57 v82 z103 q104 := ⟨_, _, _, _, _, _, _, _, _, _, _, _, hz30, hq31, hv32, hz55, hq56, hv57, hiP, hz80, hq81, hv82, hoP, hz103, hq104, hv105, rfl, rfl⟩
         have hno : NoTx xs := fun v0 ins0 outs0 lt0 hV he => by obtain ⟨n1, n2, n3⟩ := psd_E hP hiB hoB hV he; exact endB_false hb128 n1 n2
         exact ⟨0, [], none, 0, [], none, 0, 0, [], [], 2, rfl, ((((H133.sub (List.nil_sublist _)).rowNil 53 35).rowNil 40 2).bagNil).bagNil, (fun x_ h_ => by simp at h_), (fun x_ h_ => by simp at h_), .inr ⟨rfl, rfl, rfl, rfl, rfl, hno⟩⟩
       · skip
         have hend := endB_true hb128
         refine GL.r 7 3 [(2, pt p3 0), (5, pt p38 0), (70, .bool ((((txE (getB v32) ins outs (getB v105)) : Nat) : Int) != 0))] ?_
         refine GL.q hK124 ?_
         cases hb134 : ((((txE (getB v32) ins outs (getB v105)) : Nat) : Int) != 0)
         · skip
           have hb134f : (((txE (getB v32) ins outs (getB v105)) : Nat) : Int) = 0 := bne_eq_false_iff_eq.1 hb134
           have hE : txE (getB v32) ins outs (getB v105) = 0 := by omega
           refine G.no rfl ?_
           refine G.skipK hK114 (fun _ _ h => h) ?_
           refine G.sr fun K135 hK136 => ?_
           refine GL.s 1 (H126.ldA (o := 0) (ty := 26) (m := 4) (sub := [vw (getB v32), .slice Ai ins.length ci, .slice Ao outs.length co, vw (getB v105)]) 3 rfl (by kernel_rfl) rfl rfl) [(2, pt p3 0), (72, .agg #[vw (getB v32), .slice Ai ins.length ci, .slice Ao outs.length co, vw (getB v105)])] ?_
           obtain ⟨w137, r138, H139⟩ := H126.stA (P := Try.prog) (o := 0) (vs := [vw (getB v32), .slice Ai ins.length ci, .slice Ao outs.length co, vw (getB v105)]) (ty := 26) (m := 4) 2 rfl (by kernel_rfl) rfl (by simp) (by simp [Value.oneCell'])
           refine GL.u 2 r138 [(2, pt p3 0)] ?_
           refine GL.r 3 1 [(2, pt p3 0), (3, li 0)] ?_
           refine GL.q hK136 ?_
           refine G.ret fun F_ hF_ hM_ => hRet _ _ (bodyPost_2 rfl (RV.cell rfl (H139.ldA (o := 0) (ty := 26) (m := 4) (sub := [vw (getB v32), .slice Ai ins.length ci, .slice Ao outs.length co, vw (getB v105)]) 2 rfl (by kernel_rfl) rfl rfl)) (RV.tmp rfl) ?_ F_ hF_ hM_)
           have hP : Psd xs (getB v32) ins outs (getB v105) v57 v82 z103 q104 := ⟨_, _, _, _, _, _, _, _, _, _, _, _, hz30, hq31, hv32, hz55, hq56, hv57, hiP, hz80, hq81, hv82, hoP, hz103, hq104, hv105, rfl, rfl⟩
           obtain ⟨hX, hV⟩ := psd_ok hP (by omega) (by omega) hiB hoB hend.1 hend.2 hE
           have H140 : Hp w [] [.row Ai ins.length ci 53 35 (insC ins), .bag Gi, .row Ao outs.length co 40 2 (outsC outs), .bag Go] w137 := H139.sub (List.Sublist.cons _ (List.Sublist.cons _ (List.Sublist.cons _ (List.Sublist.cons _ (List.Sublist.cons_cons _ (List.Sublist.cons_cons _ (List.Sublist.cons_cons _ (List.Sublist.cons_cons _ (List.Sublist.cons _ (List.Sublist.slnil))))))))))
           exact ⟨_, ins, _, _, outs, _, _, _, _, _, 0, rfl, (Hp.reorder (L' := [.row Ai ins.length ci 53 35 (insC ins), .row Ao outs.length co 40 2 (outsC outs), .bag Gi, .bag Go]) H140 (List.Perm.cons _ (List.Perm.trans (List.Perm.swap _ _ _) (List.Perm.refl _)))), hiB, hoB, .inl ⟨rfl, hX, hV⟩⟩
         · skip
           have hb134f : (((txE (getB v32) ins outs (getB v105)) : Nat) : Int) ≠ 0 := bne_iff_ne.1 hb134
           have hE : txE (getB v32) ins outs (getB v105) ≠ 0 := by omega
           refine G.yes rfl ?_
           refine G.sr fun K141 hK142 => ?_
           refine GL.r 1 1 [(2, pt p3 0), (71, .agg #[lw 0, .slice none 0 0, .slice none 0 0, lw 0])] ?_
           obtain ⟨w143, r144, H145⟩ := H126.stA (P := Try.prog) (o := 0) (vs := [lw 0, .slice none 0 0, .slice none 0 0, lw 0]) (ty := 26) (m := 4) 2 rfl (by kernel_rfl) rfl (by simp) (by simp [Value.oneCell'])
           refine GL.u 2 r144 [(2, pt p3 0)] ?_
           refine GL.r 3 1 [(2, pt p3 0), (3, li 2)] ?_
           refine GL.q hK142 ?_
           refine G.ret fun F_ hF_ hM_ => hRet _ _ (bodyPost_2 rfl (RV.cell rfl (H145.ldA (o := 0) (ty := 26) (m := 4) (sub := [lw 0, .slice none 0 0, .slice none 0 0, lw 0]) 2 rfl (by kernel_rfl) rfl rfl)) (RV.tmp rfl) ?_ F_ hF_ hM_)
           have hP : Psd xs (getB v32) ins outs (getB v105) v57 v82 z103 q104 := ⟨_, _, _, _, _, _, _, _, _, _, _, _, hz30, hq31, hv32, hz55, hq56, hv57, hiP, hz80, hq81, hv82, hoP, hz103, hq104, hv105, rfl, rfl⟩
           have hno : NoTx xs := fun v0 ins0 outs0 lt0 hV he => by obtain ⟨n1, n2, n3⟩ := psd_E hP hiB hoB hV he; exact absurd n3 hE
           exact ⟨0, [], none, 0, [], none, 0, 0, [], [], 2, rfl, ((((H145.sub (List.nil_sublist _)).rowNil 53 35).rowNil 40 2).bagNil).bagNil, (fun x_ h_ => by simp at h_), (fun x_ h_ => by simp at h_), .inr ⟨rfl, rfl, rfl, rfl, rfl, hno⟩⟩
     · skip
       have hb94f := of_decide_eq_true hb94
       refine G.yes rfl ?_
       refine G.skipK hK93 (fun _ _ h => h) ?_
       refine G.seqK fun K146 hK147 => ?_
       refine G.block ?_
       refine G.heldP (Hp w [] [.row A15 xs.length c16 5 1 (by8 xs), .blk p3 [lw 0, .slice none 0 0, .slice none 0 0, lw 0] 26, .blk p38 [vw (getB v32), .slice Ai ins.length ci, .slice Ao ko co, lw 0] 26, .row Ai ins.length ci 53 35 (insC ins), .bag Gi, .bag Go]) (by kernel_rfl) (by kernel_rfl) (fun c_ a_ d_ v_ w_ h_ => hPan c_ a_ d_ v_ w_ h_) ?_
       have H148 := H89.drew
       generalize ({ w87 with drawn := w87.drawn + 1 } : World) = w149 at H148 ⊢
       have hS150 : Hp w [] [.row A15 xs.length c16 5 1 (by8 xs), .blk p3 [lw 0, .slice none 0 0, .slice none 0 0, lw 0] 26, .blk p38 [vw (getB v32), .slice Ai ins.length ci, .slice Ao ko co, lw 0] 26, .row Ai ins.length ci 53 35 (insC ins), .bag Gi, .bag Go] w149 := H148.sub (List.Sublist.cons _ (List.Sublist.cons_cons _ (List.Sublist.cons_cons _ (List.Sublist.cons_cons _ (List.Sublist.cons_cons _ (List.Sublist.cons_cons _ (List.Sublist.cons _ (List.Sublist.cons_cons _ (List.Sublist.slnil)))))))))
       refine GP.r [0] [(2, pt p3 0), (4, pt p14 0), (5, pt p38 0), (41, vu v82), (42, vu ko), (44, pt p38 2)] [0] hS150 ?_
       refine GP.s 1 (fun w_ H_ => H_.ld (o := 2) (ty := 24) (v := .slice Ao ko co) 2 rfl (by kernel_rfl) rfl) [(2, pt p3 0), (4, pt p14 0), (5, pt p38 0), (41, vu v82), (42, vu ko), (45, .slice Ao ko co)] hS150 ?_
       refine GP.r [2, 4] [(2, pt p3 0), (4, pt p14 0), (5, pt p38 0), (41, vu v82), (42, vu ko), (45, .slice Ao ko co), (46, pt p14 0), (48, pt p14 0)] [0, 1, 2, 4] hS150 ?_
       obtain ⟨z157, hz157⟩ : ∃ z_ : Bool, z_ = (!(rOK zo qo 8)) := ⟨_, rfl⟩
       obtain ⟨q158, hq158⟩ : ∃ q_ : List UInt8, q_ = rR zo qo 8 := ⟨_, rfl⟩
       obtain ⟨v159, hv159⟩ : ∃ v_ : List UInt8, v_ = rV zo qo 8 := ⟨_, rfl⟩
       have h6q158 : q158.length ≤ 1000000 := by rw [hq158]; refine Nat.le_trans (rR_le _ _ _) ?_; first | exact ho6 | (rw [← rfl]; exact ho6)
       have hlv159 : v159.length ≤ 8 := by rw [hv159]; exact rV_le _ _ _
       have hbv159 : getB v159 < 18446744073709551616 := Nat.lt_of_lt_of_le (getB_lt v159) (Nat.le_trans (Nat.pow_le_pow_right (by decide) hlv159) (by decide))
       refine GP.call 3 (Get8_calls (ids [.blk p14 [.slice Bo qo.length bo, .bool zo] 107, .row A15 xs.length c16 5 1 (by8 xs)]) p14 Bo qo.length bo zo A15 xs.length c16 xs qo w149 (Hp.startL (A := [.blk p14 [.slice Bo qo.length bo, .bool zo] 107, .row A15 xs.length c16 5 1 (by8 xs)]) (B := [.blk p3 [lw 0, .slice none 0 0, .slice none 0 0, lw 0] 26, .blk p38 [vw (getB v32), .slice Ai ins.length ci, .slice Ao ko co, lw 0] 26, .row Ai ins.length ci 53 35 (insC ins), .bag Gi, .row Ao ko co 40 2 (outsC outs), .bag Go]) H148) hoC (rfl) (hoc) (ho6)) (by kernel_rfl) (by kernel_rfl) (fun e_ w160 hR => ?_)
       obtain ⟨A151, c152, rfl, H162, hC155, hL156⟩ := hR
       simp only [← hz157, ← hq158, ← hv159] at H162 hC155 hL156 ⊢
       have H161 : Hp w [] [.blk p14 [.slice A151 q158.length c152, .bool z157] 107, .row A15 xs.length c16 5 1 (by8 xs), .blk p3 [lw 0, .slice none 0 0, .slice none 0 0, lw 0] 26, .blk p38 [vw (getB v32), .slice Ai ins.length ci, .slice Ao ko co, lw 0] 26, .row Ai ins.length ci 53 35 (insC ins), .bag Gi, .row Ao ko co 40 2 (outsC outs), .bag Go] w160 := Hp.callL (A := [.blk p14 [.slice Bo qo.length bo, .bool zo] 107, .row A15 xs.length c16 5 1 (by8 xs)]) (B := [.blk p3 [lw 0, .slice none 0 0, .slice none 0 0, lw 0] 26, .blk p38 [vw (getB v32), .slice Ai ins.length ci, .slice Ao ko co, lw 0] 26, .row Ai ins.length ci 53 35 (insC ins), .bag Gi, .row Ao ko co 40 2 (outsC outs), .bag Go]) H148 H162
       have hS163 : Hp w [] [.row A15 xs.length c16 5 1 (by8 xs), .blk p3 [lw 0, .slice none 0 0, .slice none 0 0, lw 0] 26, .blk p38 [vw (getB v32), .slice Ai ins.length ci, .slice Ao ko co, lw 0] 26, .row Ai ins.length ci 53 35 (insC ins), .bag Gi, .bag Go] w160 := H161.sub (List.Sublist.cons _ (List.Sublist.cons_cons _ (List.Sublist.cons_cons _ (List.Sublist.cons_cons _ (List.Sublist.cons_cons _ (List.Sublist.cons_cons _ (List.Sublist.cons _ (List.Sublist.cons_cons _ (List.Sublist.slnil)))))))))
       refine ⟨_, rfl, hS163, [2, 4, 5, 41, 42, 45, 47, 48], [(2, pt p3 0), (4, pt p14 0), (5, pt p38 0), (41, vu v82), (42, vu ko), (45, .slice Ao ko co), (47, vu (getB v159)), (48, pt p14 0)], by kernel_rfl, ?_⟩
       obtain ⟨z170, hz170⟩ : ∃ z_ : Bool, z_ = (!(cdOK z157 q158 520)) := ⟨_, rfl⟩
       obtain ⟨q171, hq171⟩ : ∃ q_ : List UInt8, q_ = cdR z157 q158 520 := ⟨_, rfl⟩
       obtain ⟨v172, hv172⟩ : ∃ v_ : List UInt8, v_ = cdV z157 q158 520 := ⟨_, rfl⟩
       have h6q171 : q171.length ≤ 1000000 := by rw [hq171]; refine Nat.le_trans (cdR_le _ _ _) ?_; first | exact h6q158 | (rw [← rfl]; exact h6q158)
       refine GP.call 5 (RCounted_calls (ids [.blk p14 [.slice A151 q158.length c152, .bool z157] 107, .row A15 xs.length c16 5 1 (by8 xs)]) p14 A151 q158.length c152 z157 A15 xs.length c16 xs q158 520 w160 (Hp.startL (A := [.blk p14 [.slice A151 q158.length c152, .bool z157] 107, .row A15 xs.length c16 5 1 (by8 xs)]) (B := [.blk p3 [lw 0, .slice none 0 0, .slice none 0 0, lw 0] 26, .blk p38 [vw (getB v32), .slice Ai ins.length ci, .slice Ao ko co, lw 0] 26, .row Ai ins.length ci 53 35 (insC ins), .bag Gi, .row Ao ko co 40 2 (outsC outs), .bag Go]) H161) hC155 (rfl) (hL156) (h6q158) (by decide)) (by kernel_rfl) (by kernel_rfl) (fun e_ w173 hR => ?_)
       obtain ⟨A164, c165, A166, c167, rfl, H175, hC168, hL169⟩ := hR
       simp only [← hz170, ← hq171, ← hv172] at H175 hC168 hL169 ⊢
       have H174 : Hp w [] [.blk p14 [.slice A164 q171.length c165, .bool z170] 107, .row A15 xs.length c16 5 1 (by8 xs), .row A166 v172.length c167 5 1 (by8 v172), .blk p3 [lw 0, .slice none 0 0, .slice none 0 0, lw 0] 26, .blk p38 [vw (getB v32), .slice Ai ins.length ci, .slice Ao ko co, lw 0] 26, .row Ai ins.length ci 53 35 (insC ins), .bag Gi, .row Ao ko co 40 2 (outsC outs), .bag Go] w173 := Hp.callL (A := [.blk p14 [.slice A151 q158.length c152, .bool z157] 107, .row A15 xs.length c16 5 1 (by8 xs)]) (B := [.blk p3 [lw 0, .slice none 0 0, .slice none 0 0, lw 0] 26, .blk p38 [vw (getB v32), .slice Ai ins.length ci, .slice Ao ko co, lw 0] 26, .row Ai ins.length ci 53 35 (insC ins), .bag Gi, .row Ao ko co 40 2 (outsC outs), .bag Go]) H161 H175
       have hS176 : Hp w [] [.row A15 xs.length c16 5 1 (by8 xs), .blk p3 [lw 0, .slice none 0 0, .slice none 0 0, lw 0] 26, .blk p38 [vw (getB v32), .slice Ai ins.length ci, .slice Ao ko co, lw 0] 26, .row Ai ins.length ci 53 35 (insC ins), .bag Gi, .bag Go] w173 := H174.sub (List.Sublist.cons _ (List.Sublist.cons_cons _ (List.Sublist.cons _ (List.Sublist.cons_cons _ (List.Sublist.cons_cons _ (List.Sublist.cons_cons _ (List.Sublist.cons_cons _ (List.Sublist.cons _ (List.Sublist.cons_cons _ (List.Sublist.slnil))))))))))
       refine ⟨_, rfl, hS176, [2, 4, 5, 41, 42, 45, 47, 49], [(2, pt p3 0), (4, pt p14 0), (5, pt p38 0), (41, vu v82), (42, vu ko), (45, .slice Ao ko co), (47, vu (getB v159)), (49, .slice A166 v172.length c167)], by kernel_rfl, ?_⟩
       refine GP.r [6] [(2, pt p3 0), (4, pt p14 0), (5, pt p38 0), (41, vu v82), (42, vu ko), (45, .slice Ao ko co), (50, .agg #[vu (getB v159), .slice A166 v172.length c167])] [0, 1, 2, 4, 3, 5, 6] hS176 ?_
       obtain ⟨p177, w178, r179, H180⟩ := H174.made (P := Try.prog) (Instr.buildSlice 24 1 #[(0, .agg #[vu (getB v159), .slice A166 v172.length c167])]) (fun b_ => .slice (some ⟨b_, 0, none⟩) 1 1) [vu (getB v159), .slice A166 v172.length c167] 40 (by kernel_rfl)
       have hS181 : Hp w [] [.row A15 xs.length c16 5 1 (by8 xs), .blk p3 [lw 0, .slice none 0 0, .slice none 0 0, lw 0] 26, .blk p38 [vw (getB v32), .slice Ai ins.length ci, .slice Ao ko co, lw 0] 26, .row Ai ins.length ci 53 35 (insC ins), .bag Gi, .bag Go] w178 := H180.sub (List.Sublist.cons _ (List.Sublist.cons_cons _ (List.Sublist.cons _ (List.Sublist.cons_cons _ (List.Sublist.cons_cons _ (List.Sublist.cons_cons _ (List.Sublist.cons_cons _ (List.Sublist.cons _ (List.Sublist.cons_cons _ (List.Sublist.cons _ (List.Sublist.slnil)))))))))))
       refine GP.made 7 r179 [2, 4, 5, 41, 42, 45, 51] [(2, pt p3 0), (4, pt p14 0), (5, pt p38 0), (41, vu v82), (42, vu ko), (45, .slice Ao ko co), (51, .slice (some ⟨p177, 0, none⟩) 1 1)] (by kernel_rfl) (by kernel_rfl) (by kernel_rfl) hS181 ?_
       obtain ⟨A182, c183, w184, r185, H186⟩ := H180.append (P := Try.prog) (e := 40) (sz := 2) (by_ := 32) (n := ko) (c := co) (m := 1) (d := 1) (t := 24) (ty := 24) (xs := outsC outs) (news := [vu (getB v159), .slice A166 v172.length c167]) 7 rfl (by kernel_rfl) (H180.rdBlk (o := 0) (xs := [vu (getB v159), .slice A166 v172.length c167]) 9 2 rfl rfl) (by simp) (by simp [Value.oneCell']) (by omega) (by simp only [maxLen]; omega)
       have hS187 : Hp w [] [.row A15 xs.length c16 5 1 (by8 xs), .blk p3 [lw 0, .slice none 0 0, .slice none 0 0, lw 0] 26, .blk p38 [vw (getB v32), .slice Ai ins.length ci, .slice Ao ko co, lw 0] 26, .row Ai ins.length ci 53 35 (insC ins), .bag Gi, .bag Go] w184 := H186.sub (List.Sublist.cons _ (List.Sublist.cons_cons _ (List.Sublist.cons _ (List.Sublist.cons_cons _ (List.Sublist.cons_cons _ (List.Sublist.cons_cons _ (List.Sublist.cons_cons _ (List.Sublist.cons _ (List.Sublist.cons_cons _ (List.Sublist.cons _ (List.Sublist.slnil)))))))))))
       refine GP.made 8 r185 [2, 4, 5, 41, 42, 52] [(2, pt p3 0), (4, pt p14 0), (5, pt p38 0), (41, vu v82), (42, vu ko), (52, .slice A182 (ko + 1) c183)] (by kernel_rfl) (by kernel_rfl) (by kernel_rfl) hS187 ?_
       refine GP.r [9] [(2, pt p3 0), (4, pt p14 0), (5, pt p38 0), (41, vu v82), (42, vu ko), (52, .slice A182 (ko + 1) c183), (53, pt p38 2)] [0, 1, 2, 4, 3, 5, 6, 7, 8, 9] hS187 ?_
       obtain ⟨w188, r189, H190⟩ := H186.st (P := Try.prog) (o := 2) (ty := 24) (v := .slice A182 (ko + 1) c183) 4 rfl (by kernel_rfl) (by simp) rfl
       refine GP.semUL 10 r189 [2, 4, 5, 41, 42] [(2, pt p3 0), (4, pt p14 0), (5, pt p38 0), (41, vu v82), (42, vu ko)] (by kernel_rfl) rfl rfl (by kernel_rfl) (by kernel_rfl) ?_
       refine GP.k (by kernel_rfl) hK147 (fun _ _ h => h) ?_
       refine G.region ?_
       refine GL.r 2 2 [(2, pt p3 0), (4, pt p14 0), (5, pt p38 0), (41, vu v82), (42, lu (IntKind.u64.wrap ((ko : Int) + 1)))] ?_
       have e191 : (IntKind.u64.wrap ((ko : Int) + 1)) = ((ko + 1 : Nat) : Int) := by rw [in_u64 (by omega)]; omega
       rw [e191]
       clear e191
       obtain ⟨x192, hx193⟩ : ∃ x_ : TOut, x_.pv = getB v159 ∧ x_.B = A166 ∧ x_.lb = v172 ∧ x_.lc = c167 := ⟨⟨getB v159, A166, v172, c167⟩, rfl, rfl, rfl, rfl⟩
       have H194 : Hp w [] [.blk p14 [.slice A164 q171.length c165, .bool z170] 107, .row A15 xs.length c16 5 1 (by8 xs), .row A166 v172.length c167 5 1 (by8 v172), .blk p3 [lw 0, .slice none 0 0, .slice none 0 0, lw 0] 26, .blk p38 [vw (getB v32), .slice Ai ins.length ci, .slice A182 (ko + 1) c183, lw 0] 26, .row Ai ins.length ci 53 35 (insC ins), .bag Gi, .row A182 (ko + 1) c183 40 2 (outsC outs ++ [vu (getB v159), .slice A166 v172.length c167]), .bag Go] w188 := H190.sub (List.Sublist.cons_cons _ (List.Sublist.cons_cons _ (List.Sublist.cons_cons _ (List.Sublist.cons_cons _ (List.Sublist.cons_cons _ (List.Sublist.cons_cons _ (List.Sublist.cons_cons _ (List.Sublist.cons_cons _ (List.Sublist.cons_cons _ (List.Sublist.cons _ (List.Sublist.slnil)))))))))))
       have H195 := ((Hp.reorder (L' := [.row A166 v172.length c167 5 1 (by8 v172), .bag Go, .blk p14 [.slice A164 q171.length c165, .bool z170] 107, .row A15 xs.length c16 5 1 (by8 xs), .blk p3 [lw 0, .slice none 0 0, .slice none 0 0, lw 0] 26, .blk p38 [vw (getB v32), .slice Ai ins.length ci, .slice A182 (ko + 1) c183, lw 0] 26, .row Ai ins.length ci 53 35 (insC ins), .bag Gi, .row A182 (ko + 1) c183 40 2 (outsC outs ++ [vu (getB v159), .slice A166 v172.length c167])]) H194 (List.Perm.trans (List.Perm.cons _ (List.Perm.swap _ _ _)) (List.Perm.trans (List.Perm.swap _ _ _) (List.Perm.cons _ (List.Perm.trans (List.Perm.cons _ (List.Perm.cons _ (List.Perm.cons _ (List.Perm.cons _ (List.Perm.cons _ (List.Perm.cons _ (List.Perm.swap _ _ _))))))) (List.Perm.trans (List.Perm.cons _ (List.Perm.cons _ (List.Perm.cons _ (List.Perm.cons _ (List.Perm.cons _ (List.Perm.swap _ _ _)))))) (List.Perm.trans (List.Perm.cons _ (List.Perm.cons _ (List.Perm.cons _ (List.Perm.cons _ (List.Perm.swap _ _ _))))) (List.Perm.trans (List.Perm.cons _ (List.Perm.cons _ (List.Perm.cons _ (List.Perm.swap _ _ _)))) (List.Perm.trans (List.Perm.cons _ (List.Perm.cons _ (List.Perm.swap _ _ _))) (List.Perm.trans (List.Perm.cons _ (List.Perm.swap _ _ _)) (List.Perm.trans (List.Perm.swap _ _ _) (List.Perm.refl _))))))))))))).bagIn
       have H196 := (Hp.reorder (L' := [.blk p14 [.slice A164 q171.length c165, .bool z170] 107, .row A15 xs.length c16 5 1 (by8 xs), .blk p3 [lw 0, .slice none 0 0, .slice none 0 0, lw 0] 26, .blk p38 [vw (getB v32), .slice Ai ins.length ci, .slice A182 (ko + 1) c183, lw 0] 26, .row Ai ins.length ci 53 35 (insC ins), .bag Gi, .row A182 (ko + 1) c183 40 2 (outsC outs ++ [vu (getB v159), .slice A166 v172.length c167]), .bag ((A166, v172.length, c167, 5, by8 v172) :: Go)]) H195 (List.Perm.trans (List.Perm.swap _ _ _) (List.Perm.cons _ (List.Perm.trans (List.Perm.swap _ _ _) (List.Perm.cons _ (List.Perm.trans (List.Perm.swap _ _ _) (List.Perm.cons _ (List.Perm.trans (List.Perm.swap _ _ _) (List.Perm.cons _ (List.Perm.trans (List.Perm.swap _ _ _) (List.Perm.cons _ (List.Perm.trans (List.Perm.swap _ _ _) (List.Perm.cons _ (List.Perm.trans (List.Perm.swap _ _ _) (List.Perm.refl _)))))))))))))))
       have H197 : Hp w [] [.blk p14 [.slice A164 q171.length c165, .bool z170] 107, .row A15 xs.length c16 5 1 (by8 xs), .blk p3 [lw 0, .slice none 0 0, .slice none 0 0, lw 0] 26, .blk p38 [vw (getB v32), .slice Ai ins.length ci, .slice A182 (ko + 1) c183, lw 0] 26, .row Ai ins.length ci 53 35 (insC ins), .bag Gi, .row A182 (ko + 1) c183 40 2 (outsC (outs ++ [x192])), .bag ((x192.B, x192.lb.length, x192.lc, 5, by8 x192.lb) :: Go)] w188 := by
         rw [outsC_snoc, hx193.2.2.1, hx193.2.1, hx193.2.2.2, TOut.cells, hx193.1, hx193.2.2.1, hx193.2.1, hx193.2.2.2]
         exact H196
       have hR198 : RdOut zo qo z170 q171 x192 := ⟨_, _, _, hz157, hq158, hv159, hz170, hq171, hx193.2.2.1.trans hv172, hx193.1⟩
       have h520v172 : v172.length ≤ 520 := by rw [hv172]; exact Nat.le_trans (rV_le _ _ _) (ctV_le _ _ _)
       refine GL.fit (ts := [2, 4, 5, 41, 42]) (M' := [(2, pt p3 0), (4, pt p14 0), (5, pt p38 0), (41, vu v82), (42, vu (ko + 1))]) (by kernel_rfl) ?_
       refine GL.eq (M' := [(2, pt p3 0), (4, pt p14 0), (5, pt p38 0), (41, vu v82), (42, vu (ko + 1))]) (by rfl) ?_
       exact GL.again ⟨(ko + 1), z170, q171, A164, c165, A182, c183, (outs ++ [x192]), ((x192.B, x192.lb.length, x192.lc, 5, by8 x192.lb) :: Go)⟩ [2, 4, 5, 41, 42] rfl (by kernel_rfl) (by show v82 - (ko + 1) < v82 - ko; omega) ⟨⟨⟨by omega, hoL.step (by omega) hR198.back (fun y_ T_ hV_ hz_ hq_ => ⟨(hR198.on_ hz_ hq_ hV_).1, (hR198.on_ hz_ hq_ hV_).2.1, (hR198.on_ hz_ hq_ hV_).2.2.1⟩)⟩, outsB_more hoB ⟨by rw [hx193.1]; omega, by rw [hx193.2.2.1]; omega⟩, hC168, hL169, h6q171⟩, H197⟩
   · skip
     have hb69f := of_decide_eq_true hb69
     refine G.yes rfl ?_
     refine G.skipK hK68 (fun _ _ h => h) ?_
     refine G.seqK fun K199 hK200 => ?_
     refine G.block ?_
     refine G.heldP (Hp w [] [.row A15 xs.length c16 5 1 (by8 xs), .blk p3 [lw 0, .slice none 0 0, .slice none 0 0, lw 0] 26, .blk p38 [vw (getB v32), .slice Ai ki ci, .slice none 0 0, lw 0] 26, .bag Gi]) (by kernel_rfl) (by kernel_rfl) (fun c_ a_ d_ v_ w_ h_ => hPan c_ a_ d_ v_ w_ h_) ?_
     have H201 := H64.drew
     generalize ({ w62 with drawn := w62.drawn + 1 } : World) = w202 at H201 ⊢
     have hS203 : Hp w [] [.row A15 xs.length c16 5 1 (by8 xs), .blk p3 [lw 0, .slice none 0 0, .slice none 0 0, lw 0] 26, .blk p38 [vw (getB v32), .slice Ai ki ci, .slice none 0 0, lw 0] 26, .bag Gi] w202 := H201.sub (List.Sublist.cons _ (List.Sublist.cons_cons _ (List.Sublist.cons_cons _ (List.Sublist.cons_cons _ (List.Sublist.cons _ (List.Sublist.cons_cons _ (List.Sublist.slnil)))))))
     refine GP.r [0] [(2, pt p3 0), (4, pt p14 0), (5, pt p38 0), (19, vu v57), (20, vu ki), (22, pt p38 1)] [0] hS203 ?_
     refine GP.s 1 (fun w_ H_ => H_.ld (o := 1) (ty := 23) (v := .slice Ai ki ci) 2 rfl (by kernel_rfl) rfl) [(2, pt p3 0), (4, pt p14 0), (5, pt p38 0), (19, vu v57), (20, vu ki), (23, .slice Ai ki ci)] hS203 ?_
     refine GP.r [2, 5, 8, 10] [(2, pt p3 0), (4, pt p14 0), (5, pt p38 0), (19, vu v57), (20, vu ki), (23, .slice Ai ki ci), (24, pt p14 0), (27, pt p14 0), (30, pt p14 0), (32, pt p14 0)] [0, 1, 2, 5, 8, 10] hS203 ?_
     obtain ⟨z210, hz210⟩ : ∃ z_ : Bool, z_ = (!(rOK zi qi 32)) := ⟨_, rfl⟩
     obtain ⟨q211, hq211⟩ : ∃ q_ : List UInt8, q_ = rR zi qi 32 := ⟨_, rfl⟩
     obtain ⟨v212, hv212⟩ : ∃ v_ : List UInt8, v_ = rV zi qi 32 := ⟨_, rfl⟩
     have h6q211 : q211.length ≤ 1000000 := by rw [hq211]; refine Nat.le_trans (rR_le _ _ _) ?_; first | exact hi6 | (rw [← rfl]; exact hi6)
     have hlv212 : v212.length ≤ 32 := by rw [hv212]; exact rV_le _ _ _
     have hov212 : v212.length = 32 ∨ v212.length = 0 := by rw [hv212]; exact rV_or _ _ _
     refine GP.call 3 (Raw_calls (ids [.blk p14 [.slice Bi qi.length bi, .bool zi] 107, .row A15 xs.length c16 5 1 (by8 xs)]) p14 Bi qi.length bi zi A15 xs.length c16 xs qi 32 w202 (Hp.startL (A := [.blk p14 [.slice Bi qi.length bi, .bool zi] 107, .row A15 xs.length c16 5 1 (by8 xs)]) (B := [.blk p3 [lw 0, .slice none 0 0, .slice none 0 0, lw 0] 26, .blk p38 [vw (getB v32), .slice Ai ki ci, .slice none 0 0, lw 0] 26, .row Ai ki ci 53 35 (insC ins), .bag Gi]) H201) hiC (rfl) (hic) (hi6)) (by kernel_rfl) (by kernel_rfl) (fun e_ w213 hR => ?_)
     obtain ⟨A204, c205, A206, c207, rfl, H215, hC208, hL209⟩ := hR
     simp only [← hz210, ← hq211, ← hv212] at H215 hC208 hL209 ⊢
     have H214 : Hp w [] [.blk p14 [.slice A204 q211.length c205, .bool z210] 107, .row A15 xs.length c16 5 1 (by8 xs), .row A206 v212.length c207 5 1 (by8 v212), .blk p3 [lw 0, .slice none 0 0, .slice none 0 0, lw 0] 26, .blk p38 [vw (getB v32), .slice Ai ki ci, .slice none 0 0, lw 0] 26, .row Ai ki ci 53 35 (insC ins), .bag Gi] w213 := Hp.callL (A := [.blk p14 [.slice Bi qi.length bi, .bool zi] 107, .row A15 xs.length c16 5 1 (by8 xs)]) (B := [.blk p3 [lw 0, .slice none 0 0, .slice none 0 0, lw 0] 26, .blk p38 [vw (getB v32), .slice Ai ki ci, .slice none 0 0, lw 0] 26, .row Ai ki ci 53 35 (insC ins), .bag Gi]) H201 H215
     have hS216 : Hp w [] [.row A15 xs.length c16 5 1 (by8 xs), .blk p3 [lw 0, .slice none 0 0, .slice none 0 0, lw 0] 26, .blk p38 [vw (getB v32), .slice Ai ki ci, .slice none 0 0, lw 0] 26, .bag Gi] w213 := H214.sub (List.Sublist.cons _ (List.Sublist.cons_cons _ (List.Sublist.cons _ (List.Sublist.cons_cons _ (List.Sublist.cons_cons _ (List.Sublist.cons _ (List.Sublist.cons_cons _ (List.Sublist.slnil))))))))
     refine ⟨_, rfl, hS216, [2, 4, 5, 19, 20, 23, 25, 27, 30, 32], [(2, pt p3 0), (4, pt p14 0), (5, pt p38 0), (19, vu v57), (20, vu ki), (23, .slice Ai ki ci), (25, .slice A206 v212.length c207), (27, pt p14 0), (30, pt p14 0), (32, pt p14 0)], by kernel_rfl, ?_⟩
     refine GP.call 4 (Hash32_calls A206 v212.length c207 v212 w213 (H214.rdRow 2 rfl) rfl hov212) (by kernel_rfl) (by kernel_rfl) (fun e_ w217 hR => ?_)
     obtain ⟨rfl, H219⟩ := hR
     have H218 : Hp w [] [.blk p14 [.slice A204 q211.length c205, .bool z210] 107, .row A15 xs.length c16 5 1 (by8 xs), .row A206 v212.length c207 5 1 (by8 v212), .blk p3 [lw 0, .slice none 0 0, .slice none 0 0, lw 0] 26, .blk p38 [vw (getB v32), .slice Ai ki ci, .slice none 0 0, lw 0] 26, .row Ai ki ci 53 35 (insC ins), .bag Gi] w217 := H214.callNil H219
     have hS220 : Hp w [] [.row A15 xs.length c16 5 1 (by8 xs), .blk p3 [lw 0, .slice none 0 0, .slice none 0 0, lw 0] 26, .blk p38 [vw (getB v32), .slice Ai ki ci, .slice none 0 0, lw 0] 26, .bag Gi] w217 := H218.sub (List.Sublist.cons _ (List.Sublist.cons_cons _ (List.Sublist.cons _ (List.Sublist.cons_cons _ (List.Sublist.cons_cons _ (List.Sublist.cons _ (List.Sublist.cons_cons _ (List.Sublist.slnil))))))))
     refine ⟨_, rfl, hS220, [2, 4, 5, 19, 20, 23, 26, 27, 30, 32], [(2, pt p3 0), (4, pt p14 0), (5, pt p38 0), (19, vu v57), (20, vu ki), (23, .slice Ai ki ci), (26, .agg (by8 (hsh v212)).toArray), (27, pt p14 0), (30, pt p14 0), (32, pt p14 0)], by kernel_rfl, ?_⟩
     obtain ⟨z227, hz227⟩ : ∃ z_ : Bool, z_ = (!(rOK z210 q211 4)) := ⟨_, rfl⟩
     obtain ⟨q228, hq228⟩ : ∃ q_ : List UInt8, q_ = rR z210 q211 4 := ⟨_, rfl⟩
     obtain ⟨v229, hv229⟩ : ∃ v_ : List UInt8, v_ = rV z210 q211 4 := ⟨_, rfl⟩
     have h6q228 : q228.length ≤ 1000000 := by rw [hq228]; refine Nat.le_trans (rR_le _ _ _) ?_; first | exact h6q211 | (rw [← rfl]; exact h6q211)
     have hlv229 : v229.length ≤ 4 := by rw [hv229]; exact rV_le _ _ _
     have hbv229 : getB v229 < 4294967296 := Nat.lt_of_lt_of_le (getB_lt v229) (Nat.le_trans (Nat.pow_le_pow_right (by decide) hlv229) (by decide))
     refine GP.call 6 (Get4_calls (ids [.blk p14 [.slice A204 q211.length c205, .bool z210] 107, .row A15 xs.length c16 5 1 (by8 xs)]) p14 A204 q211.length c205 z210 A15 xs.length c16 xs q211 w217 (Hp.startL (A := [.blk p14 [.slice A204 q211.length c205, .bool z210] 107, .row A15 xs.length c16 5 1 (by8 xs)]) (B := [.row A206 v212.length c207 5 1 (by8 v212), .blk p3 [lw 0, .slice none 0 0, .slice none 0 0, lw 0] 26, .blk p38 [vw (getB v32), .slice Ai ki ci, .slice none 0 0, lw 0] 26, .row Ai ki ci 53 35 (insC ins), .bag Gi]) H218) hC208 (rfl) (hL209) (h6q211)) (by kernel_rfl) (by kernel_rfl) (fun e_ w230 hR => ?_)
     obtain ⟨A221, c222, rfl, H232, hC225, hL226⟩ := hR
     simp only [← hz227, ← hq228, ← hv229] at H232 hC225 hL226 ⊢
     have H231 : Hp w [] [.blk p14 [.slice A221 q228.length c222, .bool z227] 107, .row A15 xs.length c16 5 1 (by8 xs), .row A206 v212.length c207 5 1 (by8 v212), .blk p3 [lw 0, .slice none 0 0, .slice none 0 0, lw 0] 26, .blk p38 [vw (getB v32), .slice Ai ki ci, .slice none 0 0, lw 0] 26, .row Ai ki ci 53 35 (insC ins), .bag Gi] w230 := Hp.callL (A := [.blk p14 [.slice A204 q211.length c205, .bool z210] 107, .row A15 xs.length c16 5 1 (by8 xs)]) (B := [.row A206 v212.length c207 5 1 (by8 v212), .blk p3 [lw 0, .slice none 0 0, .slice none 0 0, lw 0] 26, .blk p38 [vw (getB v32), .slice Ai ki ci, .slice none 0 0, lw 0] 26, .row Ai ki ci 53 35 (insC ins), .bag Gi]) H218 H232
     have hS233 : Hp w [] [.row A15 xs.length c16 5 1 (by8 xs), .blk p3 [lw 0, .slice none 0 0, .slice none 0 0, lw 0] 26, .blk p38 [vw (getB v32), .slice Ai ki ci, .slice none 0 0, lw 0] 26, .bag Gi] w230 := H231.sub (List.Sublist.cons _ (List.Sublist.cons_cons _ (List.Sublist.cons _ (List.Sublist.cons_cons _ (List.Sublist.cons_cons _ (List.Sublist.cons _ (List.Sublist.cons_cons _ (List.Sublist.slnil))))))))
     refine ⟨_, rfl, hS233, [2, 4, 5, 19, 20, 23, 26, 28, 30, 32], [(2, pt p3 0), (4, pt p14 0), (5, pt p38 0), (19, vu v57), (20, vu ki), (23, .slice Ai ki ci), (26, .agg (by8 (hsh v212)).toArray), (28, vu (getB v229)), (30, pt p14 0), (32, pt p14 0)], by kernel_rfl, ?_⟩
     refine GP.r [7] [(2, pt p3 0), (4, pt p14 0), (5, pt p38 0), (19, vu v57), (20, vu ki), (23, .slice Ai ki ci), (26, .agg (by8 (hsh v212)).toArray), (29, lw (IntKind.u32.wrap (((getB v229) : Nat) : Int))), (30, pt p14 0), (32, pt p14 0)] [0, 1, 2, 5, 8, 10, 3, 4, 6, 7] hS233 ?_
     have e234 : (IntKind.u32.wrap (((getB v229) : Nat) : Int)) = (((getB v229) : Nat) : Int) := in_u32 (by omega)
     refine GP.eq (M' := [(2, pt p3 0), (4, pt p14 0), (5, pt p38 0), (19, vu v57), (20, vu ki), (23, .slice Ai ki ci), (26, .agg (by8 (hsh v212)).toArray), (29, vw (getB v229)), (30, pt p14 0), (32, pt p14 0)]) (by rw [e234]) ?_
     clear e234
     obtain ⟨z241, hz241⟩ : ∃ z_ : Bool, z_ = (!(cdOK z227 q228 520)) := ⟨_, rfl⟩
     obtain ⟨q242, hq242⟩ : ∃ q_ : List UInt8, q_ = cdR z227 q228 520 := ⟨_, rfl⟩
     obtain ⟨v243, hv243⟩ : ∃ v_ : List UInt8, v_ = cdV z227 q228 520 := ⟨_, rfl⟩
     have h6q242 : q242.length ≤ 1000000 := by rw [hq242]; refine Nat.le_trans (cdR_le _ _ _) ?_; first | exact h6q228 | (rw [← rfl]; exact h6q228)
     refine GP.call 9 (RCounted_calls (ids [.blk p14 [.slice A221 q228.length c222, .bool z227] 107, .row A15 xs.length c16 5 1 (by8 xs)]) p14 A221 q228.length c222 z227 A15 xs.length c16 xs q228 520 w230 (Hp.startL (A := [.blk p14 [.slice A221 q228.length c222, .bool z227] 107, .row A15 xs.length c16 5 1 (by8 xs)]) (B := [.row A206 v212.length c207 5 1 (by8 v212), .blk p3 [lw 0, .slice none 0 0, .slice none 0 0, lw 0] 26, .blk p38 [vw (getB v32), .slice Ai ki ci, .slice none 0 0, lw 0] 26, .row Ai ki ci 53 35 (insC ins), .bag Gi]) H231) hC225 (rfl) (hL226) (h6q228) (by decide)) (by kernel_rfl) (by kernel_rfl) (fun e_ w244 hR => ?_)
     obtain ⟨A235, c236, A237, c238, rfl, H246, hC239, hL240⟩ := hR
     simp only [← hz241, ← hq242, ← hv243] at H246 hC239 hL240 ⊢
     have H245 : Hp w [] [.blk p14 [.slice A235 q242.length c236, .bool z241] 107, .row A15 xs.length c16 5 1 (by8 xs), .row A237 v243.length c238 5 1 (by8 v243), .row A206 v212.length c207 5 1 (by8 v212), .blk p3 [lw 0, .slice none 0 0, .slice none 0 0, lw 0] 26, .blk p38 [vw (getB v32), .slice Ai ki ci, .slice none 0 0, lw 0] 26, .row Ai ki ci 53 35 (insC ins), .bag Gi] w244 := Hp.callL (A := [.blk p14 [.slice A221 q228.length c222, .bool z227] 107, .row A15 xs.length c16 5 1 (by8 xs)]) (B := [.row A206 v212.length c207 5 1 (by8 v212), .blk p3 [lw 0, .slice none 0 0, .slice none 0 0, lw 0] 26, .blk p38 [vw (getB v32), .slice Ai ki ci, .slice none 0 0, lw 0] 26, .row Ai ki ci 53 35 (insC ins), .bag Gi]) H231 H246
     have hS247 : Hp w [] [.row A15 xs.length c16 5 1 (by8 xs), .blk p3 [lw 0, .slice none 0 0, .slice none 0 0, lw 0] 26, .blk p38 [vw (getB v32), .slice Ai ki ci, .slice none 0 0, lw 0] 26, .bag Gi] w244 := H245.sub (List.Sublist.cons _ (List.Sublist.cons_cons _ (List.Sublist.cons _ (List.Sublist.cons _ (List.Sublist.cons_cons _ (List.Sublist.cons_cons _ (List.Sublist.cons _ (List.Sublist.cons_cons _ (List.Sublist.slnil)))))))))
     refine ⟨_, rfl, hS247, [2, 4, 5, 19, 20, 23, 26, 29, 31, 32], [(2, pt p3 0), (4, pt p14 0), (5, pt p38 0), (19, vu v57), (20, vu ki), (23, .slice Ai ki ci), (26, .agg (by8 (hsh v212)).toArray), (29, vw (getB v229)), (31, .slice A237 v243.length c238), (32, pt p14 0)], by kernel_rfl, ?_⟩
     obtain ⟨z254, hz254⟩ : ∃ z_ : Bool, z_ = (!(rOK z241 q242 4)) := ⟨_, rfl⟩
     obtain ⟨q255, hq255⟩ : ∃ q_ : List UInt8, q_ = rR z241 q242 4 := ⟨_, rfl⟩
     obtain ⟨v256, hv256⟩ : ∃ v_ : List UInt8, v_ = rV z241 q242 4 := ⟨_, rfl⟩
     have h6q255 : q255.length ≤ 1000000 := by rw [hq255]; refine Nat.le_trans (rR_le _ _ _) ?_; first | exact h6q242 | (rw [← rfl]; exact h6q242)
     have hlv256 : v256.length ≤ 4 := by rw [hv256]; exact rV_le _ _ _
     have hbv256 : getB v256 < 4294967296 := Nat.lt_of_lt_of_le (getB_lt v256) (Nat.le_trans (Nat.pow_le_pow_right (by decide) hlv256) (by decide))
     refine GP.call 11 (Get4_calls (ids [.blk p14 [.slice A235 q242.length c236, .bool z241] 107, .row A15 xs.length c16 5 1 (by8 xs)]) p14 A235 q242.length c236 z241 A15 xs.length c16 xs q242 w244 (Hp.startL (A := [.blk p14 [.slice A235 q242.length c236, .bool z241] 107, .row A15 xs.length c16 5 1 (by8 xs)]) (B := [.row A237 v243.length c238 5 1 (by8 v243), .row A206 v212.length c207 5 1 (by8 v212), .blk p3 [lw 0, .slice none 0 0, .slice none 0 0, lw 0] 26, .blk p38 [vw (getB v32), .slice Ai ki ci, .slice none 0 0, lw 0] 26, .row Ai ki ci 53 35 (insC ins), .bag Gi]) H245) hC239 (rfl) (hL240) (h6q242)) (by kernel_rfl) (by kernel_rfl) (fun e_ w257 hR => ?_)
     obtain ⟨A248, c249, rfl, H259, hC252, hL253⟩ := hR
     simp only [← hz254, ← hq255, ← hv256] at H259 hC252 hL253 ⊢
     have H258 : Hp w [] [.blk p14 [.slice A248 q255.length c249, .bool z254] 107, .row A15 xs.length c16 5 1 (by8 xs), .row A237 v243.length c238 5 1 (by8 v243), .row A206 v212.length c207 5 1 (by8 v212), .blk p3 [lw 0, .slice none 0 0, .slice none 0 0, lw 0] 26, .blk p38 [vw (getB v32), .slice Ai ki ci, .slice none 0 0, lw 0] 26, .row Ai ki ci 53 35 (insC ins), .bag Gi] w257 := Hp.callL (A := [.blk p14 [.slice A235 q242.length c236, .bool z241] 107, .row A15 xs.length c16 5 1 (by8 xs)]) (B := [.row A237 v243.length c238 5 1 (by8 v243), .row A206 v212.length c207 5 1 (by8 v212), .blk p3 [lw 0, .slice none 0 0, .slice none 0 0, lw 0] 26, .blk p38 [vw (getB v32), .slice Ai ki ci, .slice none 0 0, lw 0] 26, .row Ai ki ci 53 35 (insC ins), .bag Gi]) H245 H259
     have hS260 : Hp w [] [.row A15 xs.length c16 5 1 (by8 xs), .blk p3 [lw 0, .slice none 0 0, .slice none 0 0, lw 0] 26, .blk p38 [vw (getB v32), .slice Ai ki ci, .slice none 0 0, lw 0] 26, .bag Gi] w257 := H258.sub (List.Sublist.cons _ (List.Sublist.cons_cons _ (List.Sublist.cons _ (List.Sublist.cons _ (List.Sublist.cons_cons _ (List.Sublist.cons_cons _ (List.Sublist.cons _ (List.Sublist.cons_cons _ (List.Sublist.slnil)))))))))
     refine ⟨_, rfl, hS260, [2, 4, 5, 19, 20, 23, 26, 29, 31, 33], [(2, pt p3 0), (4, pt p14 0), (5, pt p38 0), (19, vu v57), (20, vu ki), (23, .slice Ai ki ci), (26, .agg (by8 (hsh v212)).toArray), (29, vw (getB v229)), (31, .slice A237 v243.length c238), (33, vu (getB v256))], by kernel_rfl, ?_⟩
     refine GP.r [12] [(2, pt p3 0), (4, pt p14 0), (5, pt p38 0), (19, vu v57), (20, vu ki), (23, .slice Ai ki ci), (26, .agg (by8 (hsh v212)).toArray), (29, vw (getB v229)), (31, .slice A237 v243.length c238), (34, lw (IntKind.u32.wrap (((getB v256) : Nat) : Int)))] [0, 1, 2, 5, 8, 10, 3, 4, 6, 7, 9, 11, 12] hS260 ?_
     have e261 : (IntKind.u32.wrap (((getB v256) : Nat) : Int)) = (((getB v256) : Nat) : Int) := in_u32 (by omega)
     refine GP.eq (M' := [(2, pt p3 0), (4, pt p14 0), (5, pt p38 0), (19, vu v57), (20, vu ki), (23, .slice Ai ki ci), (26, .agg (by8 (hsh v212)).toArray), (29, vw (getB v229)), (31, .slice A237 v243.length c238), (34, vw (getB v256))]) (by rw [e261]) ?_
     clear e261
     obtain ⟨x262, hx263⟩ : ∃ x_ : TIn, x_.fr = (hsh v212) ∧ x_.ix = (getB v229) ∧ x_.B = A237 ∧ x_.kb = v243 ∧ x_.kc = c238 ∧ x_.sq = (getB v256) := ⟨⟨(hsh v212), (getB v229), A237, v243, c238, (getB v256)⟩, rfl, rfl, rfl, rfl, rfl, rfl⟩
     have hkx262 : x262.fr.length = 32 ∧ x262.kb.length = v243.length := ⟨by rw [hx263.1]; exact hsh_length _, by rw [hx263.2.2.2.1]⟩
     refine GP.s 13 (fun w_ H_ => run_tinBuild hkx262.1 ⟨hx263.1, hx263.2.1, hx263.2.2.1, hkx262.2, hx263.2.2.2.2.1, hx263.2.2.2.2.2⟩ _) [(2, pt p3 0), (4, pt p14 0), (5, pt p38 0), (19, vu v57), (20, vu ki), (23, .slice Ai ki ci), (35, .agg (x262.cells).toArray)] hS260 ?_
     obtain ⟨p264, w265, r266, H267⟩ := H258.madeTIn x262 hkx262.1
     have hS268 : Hp w [] [.row A15 xs.length c16 5 1 (by8 xs), .blk p3 [lw 0, .slice none 0 0, .slice none 0 0, lw 0] 26, .blk p38 [vw (getB v32), .slice Ai ki ci, .slice none 0 0, lw 0] 26, .bag Gi] w265 := H267.sub (List.Sublist.cons _ (List.Sublist.cons_cons _ (List.Sublist.cons _ (List.Sublist.cons _ (List.Sublist.cons_cons _ (List.Sublist.cons_cons _ (List.Sublist.cons _ (List.Sublist.cons_cons _ (List.Sublist.cons _ (List.Sublist.slnil))))))))))
     refine GP.made 14 r266 [2, 4, 5, 19, 20, 23, 36] [(2, pt p3 0), (4, pt p14 0), (5, pt p38 0), (19, vu v57), (20, vu ki), (23, .slice Ai ki ci), (36, .slice (some ⟨p264, 0, none⟩) 1 1)] (by kernel_rfl) (by kernel_rfl) (by kernel_rfl) hS268 ?_
     obtain ⟨A269, c270, w271, r272, H273⟩ := H267.append (P := Try.prog) (e := 53) (sz := 35) (by_ := 72) (n := ki) (c := ci) (m := 1) (d := 1) (t := 23) (ty := 23) (xs := insC ins) (news := x262.cells) 6 rfl (by kernel_rfl) (H267.rdBlk (o := 0) (xs := x262.cells) 8 35 rfl (tx_sub (TIn.cells_length hkx262.1))) (by rw [TIn.cells_length hkx262.1]) (TIn.cells_one) (by omega) (by simp only [maxLen]; omega)
     have hS274 : Hp w [] [.row A15 xs.length c16 5 1 (by8 xs), .blk p3 [lw 0, .slice none 0 0, .slice none 0 0, lw 0] 26, .blk p38 [vw (getB v32), .slice Ai ki ci, .slice none 0 0, lw 0] 26, .bag Gi] w271 := H273.sub (List.Sublist.cons _ (List.Sublist.cons_cons _ (List.Sublist.cons _ (List.Sublist.cons _ (List.Sublist.cons_cons _ (List.Sublist.cons_cons _ (List.Sublist.cons _ (List.Sublist.cons_cons _ (List.Sublist.cons _ (List.Sublist.slnil))))))))))
     refine GP.made 15 r272 [2, 4, 5, 19, 20, 37] [(2, pt p3 0), (4, pt p14 0), (5, pt p38 0), (19, vu v57), (20, vu ki), (37, .slice A269 (ki + 1) c270)] (by kernel_rfl) (by kernel_rfl) (by kernel_rfl) hS274 ?_
     refine GP.r [16] [(2, pt p3 0), (4, pt p14 0), (5, pt p38 0), (19, vu v57), (20, vu ki), (37, .slice A269 (ki + 1) c270), (38, pt p38 1)] [0, 1, 2, 5, 8, 10, 3, 4, 6, 7, 9, 11, 12, 13, 14, 15, 16] hS274 ?_
     obtain ⟨w275, r276, H277⟩ := H273.st (P := Try.prog) (o := 1) (ty := 23) (v := .slice A269 (ki + 1) c270) 5 rfl (by kernel_rfl) (by simp) rfl
     refine GP.semUL 17 r276 [2, 4, 5, 19, 20] [(2, pt p3 0), (4, pt p14 0), (5, pt p38 0), (19, vu v57), (20, vu ki)] (by kernel_rfl) rfl rfl (by kernel_rfl) (by kernel_rfl) ?_
     refine GP.k (by kernel_rfl) hK200 (fun _ _ h => h) ?_
     refine G.region ?_
     refine GL.r 2 2 [(2, pt p3 0), (4, pt p14 0), (5, pt p38 0), (19, vu v57), (20, lu (IntKind.u64.wrap ((ki : Int) + 1)))] ?_
     have e278 : (IntKind.u64.wrap ((ki : Int) + 1)) = ((ki + 1 : Nat) : Int) := by rw [in_u64 (by omega)]; omega
     rw [e278]
     clear e278
     have H279 : Hp w [] [.blk p14 [.slice A248 q255.length c249, .bool z254] 107, .row A15 xs.length c16 5 1 (by8 xs), .row A237 v243.length c238 5 1 (by8 v243), .blk p3 [lw 0, .slice none 0 0, .slice none 0 0, lw 0] 26, .blk p38 [vw (getB v32), .slice A269 (ki + 1) c270, .slice none 0 0, lw 0] 26, .row A269 (ki + 1) c270 53 35 (insC ins ++ x262.cells), .bag Gi] w275 := H277.sub (List.Sublist.cons_cons _ (List.Sublist.cons_cons _ (List.Sublist.cons_cons _ (List.Sublist.cons _ (List.Sublist.cons_cons _ (List.Sublist.cons_cons _ (List.Sublist.cons_cons _ (List.Sublist.cons_cons _ (List.Sublist.cons _ (List.Sublist.slnil))))))))))
     have H280 := ((Hp.reorder (L' := [.row A237 v243.length c238 5 1 (by8 v243), .bag Gi, .blk p14 [.slice A248 q255.length c249, .bool z254] 107, .row A15 xs.length c16 5 1 (by8 xs), .blk p3 [lw 0, .slice none 0 0, .slice none 0 0, lw 0] 26, .blk p38 [vw (getB v32), .slice A269 (ki + 1) c270, .slice none 0 0, lw 0] 26, .row A269 (ki + 1) c270 53 35 (insC ins ++ x262.cells)]) H279 (List.Perm.trans (List.Perm.cons _ (List.Perm.swap _ _ _)) (List.Perm.trans (List.Perm.swap _ _ _) (List.Perm.cons _ (List.Perm.trans (List.Perm.cons _ (List.Perm.cons _ (List.Perm.cons _ (List.Perm.cons _ (List.Perm.swap _ _ _))))) (List.Perm.trans (List.Perm.cons _ (List.Perm.cons _ (List.Perm.cons _ (List.Perm.swap _ _ _)))) (List.Perm.trans (List.Perm.cons _ (List.Perm.cons _ (List.Perm.swap _ _ _))) (List.Perm.trans (List.Perm.cons _ (List.Perm.swap _ _ _)) (List.Perm.trans (List.Perm.swap _ _ _) (List.Perm.refl _))))))))))).bagIn
     have H281 := (Hp.reorder (L' := [.blk p14 [.slice A248 q255.length c249, .bool z254] 107, .row A15 xs.length c16 5 1 (by8 xs), .blk p3 [lw 0, .slice none 0 0, .slice none 0 0, lw 0] 26, .blk p38 [vw (getB v32), .slice A269 (ki + 1) c270, .slice none 0 0, lw 0] 26, .row A269 (ki + 1) c270 53 35 (insC ins ++ x262.cells), .bag ((A237, v243.length, c238, 5, by8 v243) :: Gi)]) H280 (List.Perm.trans (List.Perm.swap _ _ _) (List.Perm.cons _ (List.Perm.trans (List.Perm.swap _ _ _) (List.Perm.cons _ (List.Perm.trans (List.Perm.swap _ _ _) (List.Perm.cons _ (List.Perm.trans (List.Perm.swap _ _ _) (List.Perm.cons _ (List.Perm.trans (List.Perm.swap _ _ _) (List.Perm.refl _)))))))))))
     have H282 : Hp w [] [.blk p14 [.slice A248 q255.length c249, .bool z254] 107, .row A15 xs.length c16 5 1 (by8 xs), .blk p3 [lw 0, .slice none 0 0, .slice none 0 0, lw 0] 26, .blk p38 [vw (getB v32), .slice A269 (ki + 1) c270, .slice none 0 0, lw 0] 26, .row A269 (ki + 1) c270 53 35 (insC (ins ++ [x262])), .bag ((x262.B, x262.kb.length, x262.kc, 5, by8 x262.kb) :: Gi)] w275 := by
       rw [insC_snoc, hx263.2.2.2.1, hx263.2.2.1, hx263.2.2.2.2.1]
       exact H281
     have hR283 : RdIn zi qi z254 q255 x262 := ⟨_, _, _, _, _, _, _, _, _, hz210, hq211, hv212, hz227, hq228, hv229, hz241, hq242, hx263.2.2.2.1.trans hv243, hz254, hq255, hv256, hx263.1, hx263.2.1, hx263.2.2.2.2.2⟩
     have h520v243 : v243.length ≤ 520 := by rw [hv243]; exact Nat.le_trans (rV_le _ _ _) (ctV_le _ _ _)
     refine GL.fit (ts := [2, 4, 5, 19, 20]) (M' := [(2, pt p3 0), (4, pt p14 0), (5, pt p38 0), (19, vu v57), (20, vu (ki + 1))]) (by kernel_rfl) ?_
     refine GL.eq (M' := [(2, pt p3 0), (4, pt p14 0), (5, pt p38 0), (19, vu v57), (20, vu (ki + 1))]) (by rfl) ?_
     exact GL.again ⟨(ki + 1), z254, q255, A248, c249, A269, c270, (ins ++ [x262]), ((x262.B, x262.kb.length, x262.kc, 5, by8 x262.kb) :: Gi)⟩ [2, 4, 5, 19, 20] rfl (by kernel_rfl) (by show v57 - (ki + 1) < v57 - ki; omega) ⟨⟨⟨by omega, hiL.step (by omega) hR283.back (fun y_ T_ hV_ hz_ hq_ => ⟨(hR283.on_ hz_ hq_ hV_).1, (hR283.on_ hz_ hq_ hV_).2.1, rfl⟩)⟩, insB_more hiB ⟨hkx262.1, by rw [hx263.2.1]; omega, by rw [hx263.2.2.2.2.2]; omega, by rw [hx263.2.2.2.1]; omega⟩, hC252, hL253, h6q255⟩, H282⟩
 · skip
   have hb11f := of_decide_eq_true hb11
   refine G.yes rfl ?_
   refine G.sr fun K284 hK285 => ?_
   refine GL.r 1 1 [(2, pt p3 0), (11, .agg #[lw 0, .slice none 0 0, .slice none 0 0, lw 0])] ?_
   obtain ⟨w286, r287, H288⟩ := H6.stA (P := Try.prog) (o := 0) (vs := [lw 0, .slice none 0 0, .slice none 0 0, lw 0]) (ty := 26) (m := 4) 0 rfl (by kernel_rfl) rfl (by simp) (by simp [Value.oneCell'])
   refine GL.u 2 r287 [(2, pt p3 0)] ?_
   refine GL.r 3 1 [(2, pt p3 0), (3, li 2)] ?_
   refine GL.q hK285 ?_
   refine G.ret fun F_ hF_ hM_ => hRet _ _ (bodyPost_2 rfl (RV.cell rfl (H288.ldA (o := 0) (ty := 26) (m := 4) (sub := [lw 0, .slice none 0 0, .slice none 0 0, lw 0]) 0 rfl (by kernel_rfl) rfl rfl)) (RV.tmp rfl) ?_ F_ hF_ hM_)
   have hno : NoTx xs := fun v0 ins0 outs0 lt0 hV he => by have h_ := hV.2.2.2.2.1; rw [← he] at h_; omega
   exact ⟨0, [], none, 0, [], none, 0, 0, [], [], 2, rfl, ((((H288.sub (List.nil_sublist _)).rowNil 53 35).rowNil 40 2).bagNil).bagNil, (fun x_ h_ => by simp at h_), (fun x_ h_ => by simp at h_), .inr ⟨rfl, rfl, rfl, rfl, rfl, hno⟩⟩
end Go.Proofs.Ytcedmbdahbdmaaa
namespace Go.Proofs.Ytcedmbdahbdmaaa
open Go.RowKit
abbrev W32 : Nat := 4294967296
abbrev c8 (a b c d e f g h : Nat) : List Value := [.int .u32 (a : Int), .int .u32 (b : Int), .int .u32 (c : Int), .int .u32 (d : Int), .int .u32 (e : Int), .int .u32 (f : Int), .int .u32 (g : Int), .int .u32 (h : Int)]
def u32s (ws : List Nat) : List Value := ws.map fun d : Nat => Value.int .u32 (d : Int)
theorem c8_one {a b c d e f g h : Nat} : ∀ v ∈ c8 a b c d e f g h, v.oneCell' = true := by
 intro v hv
 simp only [List.mem_cons, List.not_mem_nil, or_false] at hv
 rcases hv with rfl | rfl | rfl | rfl | rfl | rfl | rfl | rfl <;> rfl
theorem u32s_length (ws : List Nat) : (u32s ws).length = ws.length := by simp [u32s]
theorem u32s_at {ws : List Nat} {j d : Nat} (h : ws[j]? = some d) : (u32s ws)[j]? = some (.int .u32 (d : Int)) := by simp [u32s, h]
theorem u32s_set (ws : List Nat) (j d : Nat) : (u32s ws).set j (.int .u32 (d : Int)) = u32s (ws.set j d) := by simp [u32s, List.map_set]
theorem u32s_one (ws : List Nat) : ∀ v ∈ u32s ws, v.oneCell' = true := by
 intro v hv
 simp [u32s] at hv
 obtain ⟨d, _, rfl⟩ := hv
 rfl
theorem getD_at {ws : List Nat} {j : Nat} (h : j < ws.length) : ws[j]? = some (ws.getD j 0) := by rw [List.getD_eq_getElem?_getD, List.getElem?_eq_getElem h]; rfl
theorem w_and {a b : Nat} (ha : a < W32) (hb : b < W32) : Go.bits .and .u32 (a : Int) (b : Int) = ((a &&& b : Nat) : Int) :=
 (bits_nat .u32 32 (by decide) (fun n h0 h1 => by rw [IntKind.wrap_u32]; omega) a b (by simpa [W32] using ha) (by simpa [W32] using hb)).1
theorem w_or {a b : Nat} (ha : a < W32) (hb : b < W32) : Go.bits .or .u32 (a : Int) (b : Int) = ((a ||| b : Nat) : Int) :=
 (bits_nat .u32 32 (by decide) (fun n h0 h1 => by rw [IntKind.wrap_u32]; omega) a b (by simpa [W32] using ha) (by simpa [W32] using hb)).2
theorem and_lt32 {a b : Nat} (ha : a < W32) : a &&& b < W32 := Nat.lt_of_le_of_lt Nat.and_le_left ha
theorem or_lt32 {a b : Nat} (ha : a < W32) (hb : b < W32) : a ||| b < W32 := by
 rw [show W32 = 2 ^ 32 from rfl] at *
 exact Nat.or_lt_two_pow ha hb
theorem xor_lt32 {a b : Nat} (ha : a < W32) (hb : b < W32) : a ^^^ b < W32 := by
 rw [show W32 = 2 ^ 32 from rfl] at *
 exact Nat.xor_lt_two_pow ha hb
theorem w_add (a b : Nat) : IntKind.u32.wrap ((a : Int) + (b : Int)) = (((a + b) % W32 : Nat) : Int) := by rw [IntKind.wrap_u32]; simp only [W32]; omega
theorem w_addm (a b : Nat) : IntKind.u32.wrap (((a % W32 : Nat) : Int) + (b : Int)) = (((a + b) % W32 : Nat) : Int) := by rw [w_add, Nat.mod_add_mod]
theorem run_shr32 {P : Program} {t : TypeId} {k' : IntKind} {a r : Nat} (hr : r ≤ 32) (w : World) : (binOp .shr t (.int .u32 (a : Int)) (.int k' (r : Int))).run P w = .ok (.int .u32 ((a / 2 ^ r : Nat) : Int)) w := by
 rw [run_shr rfl (by omega), show min ((r : Int)).toNat IntKind.u32.bits = r from by simp only [IntKind.bits]; omega, n_shr]
theorem w_shl (a n : Nat) : IntKind.u32.wrap ((a : Int) * 2 ^ n) = ((a * 2 ^ n % W32 : Nat) : Int) := by
 have e : ((a : Int) * 2 ^ n) = ((a * 2 ^ n : Nat) : Int) := by simp
 rw [e, IntKind.wrap_u32]
 generalize a * 2 ^ n = x
 simp only [W32]
 omega
theorem run_shr64 {P : Program} {t : TypeId} {k' : IntKind} {a r : Nat} (hr : r ≤ 64) (w : World) : (binOp .shr t (.int .u64 (a : Int)) (.int k' (r : Int))).run P w = .ok (.int .u64 ((a / 2 ^ r : Nat) : Int)) w := run_shrN hr w
section
variable {P : Program} {w : World}
theorem run_slice3 {t len cap : Nat} {A : Option Addr} {l h m : Nat} {k1 k2 k3 : IntKind} (ht : slcOf P t = some 1) (hlh : l ≤ h) (hhm : h ≤ m) (hmc : m ≤ cap) :
   (Instr.sliceAt t (.slice A len cap) (some (.int k1 (l : Int))) (some (.int k2 (h : Int))) (some (.int k3 (m : Int)))).run P w = .ok (.slice (if m = l then A else A.map (·.add l)) (h - l) (m - l)) w := by
 obtain ⟨e, hu, hs⟩ := slcOf_spec ht
 have hb : (Instr.sliceBounds true len cap (some (.int k1 (l : Int))) (some (.int k2 (h : Int))) (some (.int k3 (m : Int)))).run P w = .ok (l, h, m) w := by
   simp [Instr.sliceBounds, Instr.sliceBound, asIntOf, hlh, hhm, hmc]
 simp only [Instr.sliceAt, Sem.run_bind, run_underlying hu, Result.andThen_ok, Instr.slice, hb, hs, Sem.run_pure, Nat.mul_one]
end
section
variable {P : Program} {ops : Array Oper} {Q : Exit → Act → World → Prop} {i n : Nat} {M : FM} {w : World} {C : World → Prop}
theorem RG.ofG {c : Code} (h : G P c Q n M w) : RG P c none [] Q n M w := fun F hF hM => (wpIn_wide (n := 0)).2 (h F hF hM)
theorem RG.draw {id : Nat} {w0 : World} {S : List Nat} {L : List Ent} (H : Hp w0 S L w) (hm : P.follows .mixedOrders = true) (hB : Region.lexB .any ops = true)
   (h : GQ P ops (Hp w0 S L) (fun a' => ∀ w', Hp w0 S L w' → Q .normal a' w') 0 n M) : RG P (.region id ops true) none [] Q n M w := RG.ofG (G.draw H hm hB h)
theorem GQ.kR {Q' : Exit → Act → World → Prop} {K : Act → World → Prop} {b : Code} (hi : Nat.ble ops.size i = true) (hK : ∀ a w, b.wpIn (FR none) 0 P Q' a w → K a w) (hq : ∀ a w, K a w → Q .normal a w)
   (h : ∀ w, C w → RG P b none [] Q' n M w) : GQ P ops C (fun a' => ∀ w', C w' → Q .normal a' w') i n M := GQ.done hi fun F hF hM w hw => hq _ _ (hK _ _ (h w hw F hF hM))
theorem RL.againB {ds : List Deferred} {r : Option Nat} {id : Nat} {X : Type} {Mx : X → FM} {J : X → World → Prop} {μ : X → Nat} {x : X} (x' : X) (ts : List Nat) (hi : Nat.ble ops.size i = true) (hp : pick ts M = some (Mx x')) (hμ : μ x' < μ x) (hJ : J x' w) :
   RL P ops r ds (Exit.inBlock id (Exit.then (AgainR n ds Mx J μ x) Q)) i n M w :=
 RL.done hi fun F hF hM => (⟨x', hμ, hJ, F, rfl, hF, hM.pick hp⟩ : AgainR n ds Mx J μ x ⟨F, ds⟩ w)
end
def rt (x n : Nat) : Nat := x * 2 ^ (32 - n) % W32 ||| x / 2 ^ n
def ssg0 (x : Nat) : Nat := rt x 7 ^^^ rt x 18 ^^^ x / 2 ^ 3
def ssg1 (x : Nat) : Nat := rt x 17 ^^^ rt x 19 ^^^ x / 2 ^ 10
def bsg0 (x : Nat) : Nat := rt x 2 ^^^ rt x 13 ^^^ rt x 22
def bsg1 (x : Nat) : Nat := rt x 6 ^^^ rt x 11 ^^^ rt x 25
def chf (e f g : Nat) : Nat := (e &&& f) ^^^ ((4294967295 ^^^ e) &&& g)
def majf (a b c : Nat) : Nat := (a &&& b) ^^^ (a &&& c) ^^^ (b &&& c)
theorem rt_lt {x n : Nat} (hx : x < W32) : rt x n < W32 := or_lt32 (Nat.mod_lt _ (by decide)) (Nat.lt_of_le_of_lt (Nat.div_le_self _ _) hx)
def beF (p : List UInt8) (o : Nat) : Nat → Nat
 | 0 => 0
 | k + 1 => beF p o k * 256 + (p.getD (o + k) 0).toNat
theorem beF_lt (p : List UInt8) (o k : Nat) : beF p o k < 256 ^ k := by
 induction k with
 | zero => simp [beF]
 | succ k ih =>
   have := (p.getD (o + k) 0).toNat_lt
   rw [beF, Nat.pow_succ]
   have h := Nat.mul_le_mul_right 256 (show beF p o k + 1 ≤ 256 ^ k from ih)
   rw [Nat.add_mul] at h
   omega
def wsN (p : List UInt8) : Nat → List Nat
 | 0 => []
 | i + 1 => wsN p i ++ [if i < 16 then beF p (4 * i) 4 else ((wsN p i).getD (i - 16) 0 + ssg0 ((wsN p i).getD (i - 15) 0) + (wsN p i).getD (i - 7) 0 + ssg1 ((wsN p i).getD (i - 2) 0)) % W32]
theorem wsN_length (p : List UInt8) (i : Nat) : (wsN p i).length = i := by
 induction i with
 | zero => rfl
 | succ i ih => rw [wsN, List.length_append, ih]; rfl
theorem wsN_lt (p : List UInt8) (i : Nat) : ∀ d ∈ wsN p i, d < W32 := by
 induction i with
 | zero => intro d hd; simp [wsN] at hd
 | succ i ih =>
   intro d hd
   rw [wsN] at hd
   rcases List.mem_append.1 hd with h | h
   · exact ih d h
   · rw [List.mem_singleton.1 h]
     split
     · exact beF_lt p (4 * i) 4
     · exact Nat.mod_lt _ (by decide)
theorem getD_lt {ws : List Nat} (h : ∀ d ∈ ws, d < W32) (j : Nat) : ws.getD j 0 < W32 := by
 by_cases hj : j < ws.length
 · exact h _ (List.mem_of_getElem? (getD_at hj))
 · rw [List.getD_eq_getElem?_getD, List.getElem?_eq_none (by omega)]
   decide
def wsP (p : List UInt8) (i : Nat) : List Nat := wsN p i ++ List.replicate (64 - i) 0
theorem wsP_length {p : List UInt8} {i : Nat} (h : i ≤ 64) : (wsP p i).length = 64 := by
 rw [wsP, List.length_append, wsN_length, List.length_replicate]
 omega
theorem wsP_getD {p : List UInt8} {i j : Nat} (h : j < i) : (wsP p i).getD j 0 = (wsN p i).getD j 0 := by
 rw [List.getD_eq_getElem?_getD, List.getD_eq_getElem?_getD, wsP, List.getElem?_append_left (by rw [wsN_length]; exact h)]
theorem wsP_here {p : List UInt8} {i : Nat} (h : i < 64) : (wsP p i)[i]? = some 0 := by
 rw [wsP, List.getElem?_append_right (by rw [wsN_length]; exact Nat.le_refl _), wsN_length, Nat.sub_self, List.getElem?_replicate, if_pos (by omega)]
theorem wsP_set {p : List UInt8} {i v : Nat} (h : i < 64) (hv : v = if i < 16 then beF p (4 * i) 4 else ((wsN p i).getD (i - 16) 0 + ssg0 ((wsN p i).getD (i - 15) 0) + (wsN p i).getD (i - 7) 0 + ssg1 ((wsN p i).getD (i - 2) 0)) % W32) :
   (wsP p i).set i v = wsP p (i + 1) := by
 unfold wsP
 rw [wsN, ← hv, List.set_append_right _ _ (by rw [wsN_length]; exact Nat.le_refl _), wsN_length, Nat.sub_self, show 64 - i = (64 - (i + 1)) + 1 by omega, List.replicate_succ, List.set_cons_zero, List.append_assoc]
 rfl
theorem wsP_at {p : List UInt8} {i j : Nat} (h : j < i) (hi : i ≤ 64) : (wsP p i)[j]? = some ((wsN p i).getD j 0) := by
 rw [← wsP_getD h]
 exact getD_at (by rw [wsP_length hi]; omega)
theorem wsP_put {p : List UInt8} {i v : Nat} (h : i < 64) : ((wsP p i).set i v)[i]? = some v := by
 rw [List.getElem?_set_self (by rw [wsP_length (by omega)]; exact h)]
theorem wsP_none {p : List UInt8} {i : Nat} (h : i < 64) : (wsP p i).set i 0 = wsP p i := by
 refine List.ext_getElem? fun j => ?_
 by_cases hj : i = j
 · subst hj
   rw [wsP_put h, wsP_here h]
 · rw [List.getElem?_set_ne hj]
theorem cut_getD {p : List UInt8} {l k n : Nat} (hk : k < n) : ((p.take (l + n)).drop l).getD k 0 = p.getD (l + k) 0 := by
 rw [List.getD_eq_getElem?_getD, List.getD_eq_getElem?_getD, List.getElem?_drop, List.getElem?_take_of_lt (by omega)]
theorem w_orbyte {x b : Nat} (hx : x < 16777216) (hb : b < 256) : Go.bits .or .u32 ((x * 256 : Nat) : Int) (b : Int) = ((x * 256 + b : Nat) : Int) := by
 rw [w_or (by simp only [W32]; omega) (by simp only [W32]; omega), Nat.mul_comm x, show (256 : Nat) = 2 ^ 8 from rfl, ← Nat.two_pow_add_eq_or_of_lt hb]
theorem w_shl8 {x : Nat} (hx : x < 16777216) : IntKind.u32.wrap ((x : Int) * 2 ^ 8) = ((x * 256 : Nat) : Int) := by
 rw [w_shl, Nat.mod_eq_of_lt (by simp only [W32]; omega)]
theorem w_xor {a b : Nat} (ha : a < W32) (hb : b < W32) : Go.bits .xor .u32 (a : Int) (b : Int) = ((a ^^^ b : Nat) : Int) := by
 have h := u32_xor_nat a b ha hb
 exact h
abbrev V8 : Type := Nat × Nat × Nat × Nat × Nat × Nat × Nat × Nat
def stepF (k w : Nat) : V8 → V8
 | (a, b, c, d, e, f, g, h) => (((h + bsg1 e + chf e f g + k + w) % W32 + (bsg0 a + majf a b c) % W32) % W32, a, b, c, (d + (h + bsg1 e + chf e f g + k + w) % W32) % W32, e, f, g)
def KT : List Nat := [
 0x428a2f98, 0x71374491, 0xb5c0fbcf, 0xe9b5dba5, 0x3956c25b, 0x59f111f1, 0x923f82a4, 0xab1c5ed5, 0xd807aa98, 0x12835b01, 0x243185be, 0x550c7dc3, 0x72be5d74, 0x80deb1fe, 0x9bdc06a7, 0xc19bf174,
 0xe49b69c1, 0xefbe4786, 0x0fc19dc6, 0x240ca1cc, 0x2de92c6f, 0x4a7484aa, 0x5cb0a9dc, 0x76f988da, 0x983e5152, 0xa831c66d, 0xb00327c8, 0xbf597fc7, 0xc6e00bf3, 0xd5a79147, 0x06ca6351, 0x14292967,
 0x27b70a85, 0x2e1b2138, 0x4d2c6dfc, 0x53380d13, 0x650a7354, 0x766a0abb, 0x81c2c92e, 0x92722c85, 0xa2bfe8a1, 0xa81a664b, 0xc24b8b70, 0xc76c51a3, 0xd192e819, 0xd6990624, 0xf40e3585, 0x106aa070,
 0x19a4c116, 0x1e376c08, 0x2748774c, 0x34b0bcb5, 0x391c0cb3, 0x4ed8aa4a, 0x5b9cca4f, 0x682e6ff3, 0x748f82ee, 0x78a5636f, 0x84c87814, 0x8cc70208, 0x90befffa, 0xa4506ceb, 0xbef9a3f7, 0xc67178f2]
theorem KT_length : KT.length = 64 := by decide
def H0 : V8 := (0x6a09e667, 0xbb67ae85, 0x3c6ef372, 0xa54ff53a, 0x510e527f, 0x9b05688c, 0x1f83d9ab, 0x5be0cd19)
def shaR (p : List UInt8) (s : V8) : Nat → V8
 | 0 => s
 | i + 1 => stepF (KT.getD i 0) ((wsN p 64).getD i 0) (shaR p s i)
def add8 : V8 → V8 → V8
 | (a, b, c, d, e, f, g, h), (a', b', c', d', e', f', g', h') => ((a + a') % W32, (b + b') % W32, (c + c') % W32, (d + d') % W32, (e + e') % W32, (f + f') % W32, (g + g') % W32, (h + h') % W32)
def blockF (s : V8) (p : List UInt8) : V8 := add8 s (shaR p s 64)
def ok8 : V8 → Prop
 | (a, b, c, d, e, f, g, h) => a < W32 ∧ b < W32 ∧ c < W32 ∧ d < W32 ∧ e < W32 ∧ f < W32 ∧ g < W32 ∧ h < W32
theorem ok8_step {k w : Nat} {v : V8} (h : ok8 v) : ok8 (stepF k w v) := by
 obtain ⟨a, b, c, d, e, f, g, x⟩ := v
 obtain ⟨h1, h2, h3, h4, h5, h6, h7, h8⟩ := h
 exact ⟨Nat.mod_lt _ (by decide), h1, h2, h3, Nat.mod_lt _ (by decide), h5, h6, h7⟩
theorem ok8_rounds {p : List UInt8} {s : V8} (h : ok8 s) (i : Nat) : ok8 (shaR p s i) := by
 induction i with
 | zero => exact h
 | succ i ih => exact ok8_step ih
theorem ok8_add {s t : V8} : ok8 (add8 s t) := by
 obtain ⟨a, b, c, d, e, f, g, x⟩ := s
 obtain ⟨a', b', c', d', e', f', g', x'⟩ := t
 exact ⟨Nat.mod_lt _ (by decide), Nat.mod_lt _ (by decide), Nat.mod_lt _ (by decide), Nat.mod_lt _ (by decide), Nat.mod_lt _ (by decide), Nat.mod_lt _ (by decide), Nat.mod_lt _ (by decide), Nat.mod_lt _ (by decide)⟩
def v8c : V8 → List Value
 | (a, b, c, d, e, f, g, h) => [.int .u32 (a : Int), .int .u32 (b : Int), .int .u32 (c : Int), .int .u32 (d : Int), .int .u32 (e : Int), .int .u32 (f : Int), .int .u32 (g : Int), .int .u32 (h : Int)]
def blocks (m : List UInt8) : Nat → V8
 | 0 => H0
 | j + 1 => blockF (blocks m j) ((m.drop (64 * j)).take 64)
theorem ok8_blocks (m : List UInt8) (j : Nat) : ok8 (blocks m j) := by
 cases j with
 | zero =>
   show ok8 H0
   unfold H0 ok8
   simp only [W32]
   omega
 | succ j =>
   show ok8 (blockF (blocks m j) _)
   unfold blockF
   exact ok8_add
def padZ (n : Nat) : Nat := (119 - n % 64) % 64
def lenB (n : Nat) : Nat → List UInt8
 | 0 => []
 | k + 1 => lenB n k ++ [UInt8.ofNat (n * 8 / 2 ^ (56 - 8 * k))]
theorem lenB_length (n k : Nat) : (lenB n k).length = k := by
 induction k with
 | zero => rfl
 | succ k ih => rw [lenB, List.length_append, ih]; rfl
def padM (b : List UInt8) : List UInt8 := b ++ [128] ++ List.replicate (padZ b.length) 0 ++ lenB b.length 8
theorem padM_length (b : List UInt8) : (padM b).length = 64 * ((b.length + 1 + padZ b.length + 8) / 64) := by
 unfold padM padZ
 simp only [List.length_append, List.length_replicate, lenB_length, List.length_cons, List.length_nil]
 omega
def at8 : V8 → Nat → Nat
 | (a, b, c, d, e, f, g, h), i => [a, b, c, d, e, f, g, h].getD i 0
def outF (s : V8) : List UInt8 := (List.range 32).map fun i => UInt8.ofNat (at8 s (i / 4) / 2 ^ (24 - 8 * (i % 4)))
def sha (b : List UInt8) : List UInt8 := outF (blocks (padM b) ((padM b).length / 64))
end Go.Proofs.Ytcedmbdahbdmaaa
set_option maxRecDepth 100000
namespace Go.Proofs.Ytcedmbdahbdmaaa
open Go.RowKit
theorem st_whole {cs vs : List Value} {m : Nat} (h : cs.length = m) : cs.take 0 ++ vs ++ cs.drop (0 + m) = vs := by
 rw [List.take_zero, List.nil_append, Nat.zero_add, List.drop_of_length_le (Nat.le_of_eq h), List.append_nil]
theorem run_sliceN {P : Program} {t len cap : Nat} {A : Option Addr} {k1 k2 : IntKind} {l h n : Nat} (ht : slcOf P t = some 1) (hn : h = l + n) (hh : h ≤ cap) (w : World) :
   (Instr.sliceAt t (.slice A len cap) (some (.int k1 (l : Int))) (some (.int k2 (h : Int))) none).run P w = .ok (.slice (if cap = l then A else A.map (·.add l)) n (cap - l)) w := by
 have e := run_sliceSl (P := P) (w := w) (t := t) (len := len) (cap := cap) (A := A) (lo := some (.int k1 (l : Int))) (hi := some (.int k2 (h : Int))) (l := l) (h := h) ht (Or.inr ⟨_, _, rfl, rfl⟩) (Or.inr ⟨_, _, rfl, rfl⟩) (by omega) hh
 rw [show h - l = n by omega] at e
 exact e
theorem Rot2_calls (x : Nat) (hx : x < W32) (w : World) : Calls Try.prog 81 #[.int .u32 (x : Int), .int .i64 (-2)] w fun e w' => e = .returned (.int .u32 ((rt x 2 : Nat) : Int)) ∧ Hp w [] [] w' := by
 refine calls_G (args := [vw x, li (-2)]) Try.func81 rfl Try.ntmps81 rfl ?_
 intro Q0 hRet hNor hPan
 have H := Hp.start w
 refine G.sr fun K1 hK2 => ?_
 refine GL.r 1 1 [(0, vw x), (1, li (-2))] ?_
 refine GL.q hK2 ?_
 refine G.sr fun K3 hK4 => ?_
 refine GL.r 4 4 [(0, vw x), (5, lu 30)] ?_
 refine GL.q hK4 ?_
 refine G.sr fun K5 hK6 => ?_
 refine GL.r 9 9 [(4, lw (Go.bits .or .u32 (IntKind.u32.wrap ((x : Int) * 2 ^ 30)) (Int.fdiv (x : Int) (2 ^ 2))))] ?_
 have e7 : (IntKind.u32.wrap ((x : Int) * 2 ^ 30)) = ((x * 2 ^ 30 % W32 : Nat) : Int) := w_shl x 30
 have e8 : (Int.fdiv (x : Int) (2 ^ 2)) = ((x / 2 ^ 2 : Nat) : Int) := n_shr x 2
 have e9 : (Go.bits .or .u32 ((x * 2 ^ 30 % W32 : Nat) : Int) ((x / 2 ^ 2 : Nat) : Int)) = ((rt x 2 : Nat) : Int) := w_or (Nat.mod_lt _ (by decide)) (Nat.lt_of_le_of_lt (Nat.div_le_self _ _) hx)
 rw [e7, e8, e9]
 clear e7 e8 e9
 refine GL.q hK6 ?_
 refine G.ret fun F_ hF_ hM_ => hRet _ _ (bodyPost_1 rfl (RV.tmp rfl) ?_ F_ hF_ hM_)
 exact ⟨rfl, H⟩
theorem Turn2_calls (x : Nat) (hx : x < W32) (w : World) : Calls Try.prog 79 #[.int .u32 (x : Int), .int .i64 2] w fun e w' => e = .returned (.int .u32 ((rt x 2 : Nat) : Int)) ∧ Hp w [] [] w' := by
 refine calls_G (args := [vw x, li 2]) Try.func79 rfl Try.ntmps79 rfl ?_
 intro Q0 hRet hNor hPan
 have H := Hp.start w
 refine G.sr fun K1 hK2 => ?_
 refine GL.r 1 1 [(0, vw x), (1, li 2)] ?_
 refine GL.q hK2 ?_
 refine G.sr fun K3 hK4 => ?_
 refine GL.r 3 3 [(5, vw x), (7, li (-2))] ?_
 refine GL.call (j := 4) (Rot2_calls x hx w) (by kernel_rfl) rfl (fun e_ w5 hR => ?_)
 obtain ⟨rfl, H7⟩ := hR
 have H6 : Hp w [] [] w5 := H.callNil H7
 refine ⟨_, rfl, [8], [(8, vw (rt x 2))], by kernel_rfl, ?_⟩
 refine GL.r 5 1 [(4, vw (rt x 2))] ?_
 refine GL.q hK4 ?_
 refine G.ret fun F_ hF_ hM_ => hRet _ _ (bodyPost_1 rfl (RV.tmp rfl) ?_ F_ hF_ hM_)
 exact ⟨rfl, H6⟩
theorem Rot6_calls (x : Nat) (hx : x < W32) (w : World) : Calls Try.prog 81 #[.int .u32 (x : Int), .int .i64 (-6)] w fun e w' => e = .returned (.int .u32 ((rt x 6 : Nat) : Int)) ∧ Hp w [] [] w' := by
 refine calls_G (args := [vw x, li (-6)]) Try.func81 rfl Try.ntmps81 rfl ?_
 intro Q0 hRet hNor hPan
 have H := Hp.start w
 refine G.sr fun K1 hK2 => ?_
 refine GL.r 1 1 [(0, vw x), (1, li (-6))] ?_
 refine GL.q hK2 ?_
 refine G.sr fun K3 hK4 => ?_
 refine GL.r 4 4 [(0, vw x), (5, lu 26)] ?_
 refine GL.q hK4 ?_
 refine G.sr fun K5 hK6 => ?_
 refine GL.r 9 9 [(4, lw (Go.bits .or .u32 (IntKind.u32.wrap ((x : Int) * 2 ^ 26)) (Int.fdiv (x : Int) (2 ^ 6))))] ?_
 have e7 : (IntKind.u32.wrap ((x : Int) * 2 ^ 26)) = ((x * 2 ^ 26 % W32 : Nat) : Int) := w_shl x 26
 have e8 : (Int.fdiv (x : Int) (2 ^ 6)) = ((x / 2 ^ 6 : Nat) : Int) := n_shr x 6
 have e9 : (Go.bits .or .u32 ((x * 2 ^ 26 % W32 : Nat) : Int) ((x / 2 ^ 6 : Nat) : Int)) = ((rt x 6 : Nat) : Int) := w_or (Nat.mod_lt _ (by decide)) (Nat.lt_of_le_of_lt (Nat.div_le_self _ _) hx)
 rw [e7, e8, e9]
 clear e7 e8 e9
 refine GL.q hK6 ?_
 refine G.ret fun F_ hF_ hM_ => hRet _ _ (bodyPost_1 rfl (RV.tmp rfl) ?_ F_ hF_ hM_)
 exact ⟨rfl, H⟩
theorem Turn6_calls (x : Nat) (hx : x < W32) (w : World) : Calls Try.prog 79 #[.int .u32 (x : Int), .int .i64 6] w fun e w' => e = .returned (.int .u32 ((rt x 6 : Nat) : Int)) ∧ Hp w [] [] w' := by
 refine calls_G (args := [vw x, li 6]) Try.func79 rfl Try.ntmps79 rfl ?_
 intro Q0 hRet hNor hPan
 have H := Hp.start w
 refine G.sr fun K1 hK2 => ?_
 refine GL.r 1 1 [(0, vw x), (1, li 6)] ?_
 refine GL.q hK2 ?_
 refine G.sr fun K3 hK4 => ?_
 refine GL.r 3 3 [(5, vw x), (7, li (-6))] ?_
 refine GL.call (j := 4) (Rot6_calls x hx w) (by kernel_rfl) rfl (fun e_ w5 hR => ?_)
 obtain ⟨rfl, H7⟩ := hR
 have H6 : Hp w [] [] w5 := H.callNil H7
 refine ⟨_, rfl, [8], [(8, vw (rt x 6))], by kernel_rfl, ?_⟩
 refine GL.r 5 1 [(4, vw (rt x 6))] ?_
 refine GL.q hK4 ?_
 refine G.ret fun F_ hF_ hM_ => hRet _ _ (bodyPost_1 rfl (RV.tmp rfl) ?_ F_ hF_ hM_)
 exact ⟨rfl, H6⟩
theorem Rot7_calls (x : Nat) (hx : x < W32) (w : World) : Calls Try.prog 81 #[.int .u32 (x : Int), .int .i64 (-7)] w fun e w' => e = .returned (.int .u32 ((rt x 7 : Nat) : Int)) ∧ Hp w [] [] w' := by
 refine calls_G (args := [vw x, li (-7)]) Try.func81 rfl Try.ntmps81 rfl ?_
 intro Q0 hRet hNor hPan
 have H := Hp.start w
 refine G.sr fun K1 hK2 => ?_
 refine GL.r 1 1 [(0, vw x), (1, li (-7))] ?_
 refine GL.q hK2 ?_
 refine G.sr fun K3 hK4 => ?_
 refine GL.r 4 4 [(0, vw x), (5, lu 25)] ?_
 refine GL.q hK4 ?_
 refine G.sr fun K5 hK6 => ?_
 refine GL.r 9 9 [(4, lw (Go.bits .or .u32 (IntKind.u32.wrap ((x : Int) * 2 ^ 25)) (Int.fdiv (x : Int) (2 ^ 7))))] ?_
 have e7 : (IntKind.u32.wrap ((x : Int) * 2 ^ 25)) = ((x * 2 ^ 25 % W32 : Nat) : Int) := w_shl x 25
 have e8 : (Int.fdiv (x : Int) (2 ^ 7)) = ((x / 2 ^ 7 : Nat) : Int) := n_shr x 7
 have e9 : (Go.bits .or .u32 ((x * 2 ^ 25 % W32 : Nat) : Int) ((x / 2 ^ 7 : Nat) : Int)) = ((rt x 7 : Nat) : Int) := w_or (Nat.mod_lt _ (by decide)) (Nat.lt_of_le_of_lt (Nat.div_le_self _ _) hx)
 rw [e7, e8, e9]
 clear e7 e8 e9
 refine GL.q hK6 ?_
 refine G.ret fun F_ hF_ hM_ => hRet _ _ (bodyPost_1 rfl (RV.tmp rfl) ?_ F_ hF_ hM_)
 exact ⟨rfl, H⟩
theorem Turn7_calls (x : Nat) (hx : x < W32) (w : World) : Calls Try.prog 79 #[.int .u32 (x : Int), .int .i64 7] w fun e w' => e = .returned (.int .u32 ((rt x 7 : Nat) : Int)) ∧ Hp w [] [] w' := by
 refine calls_G (args := [vw x, li 7]) Try.func79 rfl Try.ntmps79 rfl ?_
 intro Q0 hRet hNor hPan
 have H := Hp.start w
 refine G.sr fun K1 hK2 => ?_
 refine GL.r 1 1 [(0, vw x), (1, li 7)] ?_
 refine GL.q hK2 ?_
 refine G.sr fun K3 hK4 => ?_
 refine GL.r 3 3 [(5, vw x), (7, li (-7))] ?_
 refine GL.call (j := 4) (Rot7_calls x hx w) (by kernel_rfl) rfl (fun e_ w5 hR => ?_)
 obtain ⟨rfl, H7⟩ := hR
 have H6 : Hp w [] [] w5 := H.callNil H7
 refine ⟨_, rfl, [8], [(8, vw (rt x 7))], by kernel_rfl, ?_⟩
 refine GL.r 5 1 [(4, vw (rt x 7))] ?_
 refine GL.q hK4 ?_
 refine G.ret fun F_ hF_ hM_ => hRet _ _ (bodyPost_1 rfl (RV.tmp rfl) ?_ F_ hF_ hM_)
 exact ⟨rfl, H6⟩
theorem Rot11_calls (x : Nat) (hx : x < W32) (w : World) : Calls Try.prog 81 #[.int .u32 (x : Int), .int .i64 (-11)] w fun e w' => e = .returned (.int .u32 ((rt x 11 : Nat) : Int)) ∧ Hp w [] [] w' := by
 refine calls_G (args := [vw x, li (-11)]) Try.func81 rfl Try.ntmps81 rfl ?_
 intro Q0 hRet hNor hPan
 have H := Hp.start w
 refine G.sr fun K1 hK2 => ?_
 refine GL.r 1 1 [(0, vw x), (1, li (-11))] ?_
 refine GL.q hK2 ?_
 refine G.sr fun K3 hK4 => ?_
 refine GL.r 4 4 [(0, vw x), (5, lu 21)] ?_
 refine GL.q hK4 ?_
 refine G.sr fun K5 hK6 => ?_
 refine GL.r 9 9 [(4, lw (Go.bits .or .u32 (IntKind.u32.wrap ((x : Int) * 2 ^ 21)) (Int.fdiv (x : Int) (2 ^ 11))))] ?_
 have e7 : (IntKind.u32.wrap ((x : Int) * 2 ^ 21)) = ((x * 2 ^ 21 % W32 : Nat) : Int) := w_shl x 21
 have e8 : (Int.fdiv (x : Int) (2 ^ 11)) = ((x / 2 ^ 11 : Nat) : Int) := n_shr x 11
 have e9 : (Go.bits .or .u32 ((x * 2 ^ 21 % W32 : Nat) : Int) ((x / 2 ^ 11 : Nat) : Int)) = ((rt x 11 : Nat) : Int) := w_or (Nat.mod_lt _ (by decide)) (Nat.lt_of_le_of_lt (Nat.div_le_self _ _) hx)
 rw [e7, e8, e9]
 clear e7 e8 e9
 refine GL.q hK6 ?_
 refine G.ret fun F_ hF_ hM_ => hRet _ _ (bodyPost_1 rfl (RV.tmp rfl) ?_ F_ hF_ hM_)
 exact ⟨rfl, H⟩
theorem Turn11_calls (x : Nat) (hx : x < W32) (w : World) : Calls Try.prog 79 #[.int .u32 (x : Int), .int .i64 11] w fun e w' => e = .returned (.int .u32 ((rt x 11 : Nat) : Int)) ∧ Hp w [] [] w' := by
 refine calls_G (args := [vw x, li 11]) Try.func79 rfl Try.ntmps79 rfl ?_
 intro Q0 hRet hNor hPan
 have H := Hp.start w
 refine G.sr fun K1 hK2 => ?_
 refine GL.r 1 1 [(0, vw x), (1, li 11)] ?_
 refine GL.q hK2 ?_
 refine G.sr fun K3 hK4 => ?_
 refine GL.r 3 3 [(5, vw x), (7, li (-11))] ?_
 refine GL.call (j := 4) (Rot11_calls x hx w) (by kernel_rfl) rfl (fun e_ w5 hR => ?_)
 obtain ⟨rfl, H7⟩ := hR
 have H6 : Hp w [] [] w5 := H.callNil H7
 refine ⟨_, rfl, [8], [(8, vw (rt x 11))], by kernel_rfl, ?_⟩
 refine GL.r 5 1 [(4, vw (rt x 11))] ?_
 refine GL.q hK4 ?_
 refine G.ret fun F_ hF_ hM_ => hRet _ _ (bodyPost_1 rfl (RV.tmp rfl) ?_ F_ hF_ hM_)
 exact ⟨rfl, H6⟩
theorem Rot13_calls (x : Nat) (hx : x < W32) (w : World) : Calls Try.prog 81 #[.int .u32 (x : Int), .int .i64 (-13)] w fun e w' => e = .returned (.int .u32 ((rt x 13 : Nat) : Int)) ∧ Hp w [] [] w' := by
 refine calls_G (args := [vw x, li (-13)]) Try.func81 rfl Try.ntmps81 rfl ?_
 intro Q0 hRet hNor hPan
 have H := Hp.start w
 refine G.sr fun K1 hK2 => ?_
 refine GL.r 1 1 [(0, vw x), (1, li (-13))] ?_
 refine GL.q hK2 ?_
 refine G.sr fun K3 hK4 => ?_
 refine GL.r 4 4 [(0, vw x), (5, lu 19)] ?_
 refine GL.q hK4 ?_
 refine G.sr fun K5 hK6 => ?_
 refine GL.r 9 9 [(4, lw (Go.bits .or .u32 (IntKind.u32.wrap ((x : Int) * 2 ^ 19)) (Int.fdiv (x : Int) (2 ^ 13))))] ?_
 have e7 : (IntKind.u32.wrap ((x : Int) * 2 ^ 19)) = ((x * 2 ^ 19 % W32 : Nat) : Int) := w_shl x 19
 have e8 : (Int.fdiv (x : Int) (2 ^ 13)) = ((x / 2 ^ 13 : Nat) : Int) := n_shr x 13
 have e9 : (Go.bits .or .u32 ((x * 2 ^ 19 % W32 : Nat) : Int) ((x / 2 ^ 13 : Nat) : Int)) = ((rt x 13 : Nat) : Int) := w_or (Nat.mod_lt _ (by decide)) (Nat.lt_of_le_of_lt (Nat.div_le_self _ _) hx)
 rw [e7, e8, e9]
 clear e7 e8 e9
 refine GL.q hK6 ?_
 refine G.ret fun F_ hF_ hM_ => hRet _ _ (bodyPost_1 rfl (RV.tmp rfl) ?_ F_ hF_ hM_)
 exact ⟨rfl, H⟩
theorem Turn13_calls (x : Nat) (hx : x < W32) (w : World) : Calls Try.prog 79 #[.int .u32 (x : Int), .int .i64 13] w fun e w' => e = .returned (.int .u32 ((rt x 13 : Nat) : Int)) ∧ Hp w [] [] w' := by
 refine calls_G (args := [vw x, li 13]) Try.func79 rfl Try.ntmps79 rfl ?_
 intro Q0 hRet hNor hPan
 have H := Hp.start w
 refine G.sr fun K1 hK2 => ?_
 refine GL.r 1 1 [(0, vw x), (1, li 13)] ?_
 refine GL.q hK2 ?_
 refine G.sr fun K3 hK4 => ?_
 refine GL.r 3 3 [(5, vw x), (7, li (-13))] ?_
 refine GL.call (j := 4) (Rot13_calls x hx w) (by kernel_rfl) rfl (fun e_ w5 hR => ?_)
 obtain ⟨rfl, H7⟩ := hR
 have H6 : Hp w [] [] w5 := H.callNil H7
 refine ⟨_, rfl, [8], [(8, vw (rt x 13))], by kernel_rfl, ?_⟩
 refine GL.r 5 1 [(4, vw (rt x 13))] ?_
 refine GL.q hK4 ?_
 refine G.ret fun F_ hF_ hM_ => hRet _ _ (bodyPost_1 rfl (RV.tmp rfl) ?_ F_ hF_ hM_)
 exact ⟨rfl, H6⟩
theorem Rot17_calls (x : Nat) (hx : x < W32) (w : World) : Calls Try.prog 81 #[.int .u32 (x : Int), .int .i64 (-17)] w fun e w' => e = .returned (.int .u32 ((rt x 17 : Nat) : Int)) ∧ Hp w [] [] w' := by
 refine calls_G (args := [vw x, li (-17)]) Try.func81 rfl Try.ntmps81 rfl ?_
 intro Q0 hRet hNor hPan
 have H := Hp.start w
 refine G.sr fun K1 hK2 => ?_
 refine GL.r 1 1 [(0, vw x), (1, li (-17))] ?_
 refine GL.q hK2 ?_
 refine G.sr fun K3 hK4 => ?_
 refine GL.r 4 4 [(0, vw x), (5, lu 15)] ?_
 refine GL.q hK4 ?_
 refine G.sr fun K5 hK6 => ?_
 refine GL.r 9 9 [(4, lw (Go.bits .or .u32 (IntKind.u32.wrap ((x : Int) * 2 ^ 15)) (Int.fdiv (x : Int) (2 ^ 17))))] ?_
 have e7 : (IntKind.u32.wrap ((x : Int) * 2 ^ 15)) = ((x * 2 ^ 15 % W32 : Nat) : Int) := w_shl x 15
 have e8 : (Int.fdiv (x : Int) (2 ^ 17)) = ((x / 2 ^ 17 : Nat) : Int) := n_shr x 17
 have e9 : (Go.bits .or .u32 ((x * 2 ^ 15 % W32 : Nat) : Int) ((x / 2 ^ 17 : Nat) : Int)) = ((rt x 17 : Nat) : Int) := w_or (Nat.mod_lt _ (by decide)) (Nat.lt_of_le_of_lt (Nat.div_le_self _ _) hx)
 rw [e7, e8, e9]
 clear e7 e8 e9
 refine GL.q hK6 ?_
 refine G.ret fun F_ hF_ hM_ => hRet _ _ (bodyPost_1 rfl (RV.tmp rfl) ?_ F_ hF_ hM_)
 exact ⟨rfl, H⟩
theorem Turn17_calls (x : Nat) (hx : x < W32) (w : World) : Calls Try.prog 79 #[.int .u32 (x : Int), .int .i64 17] w fun e w' => e = .returned (.int .u32 ((rt x 17 : Nat) : Int)) ∧ Hp w [] [] w' := by
 refine calls_G (args := [vw x, li 17]) Try.func79 rfl Try.ntmps79 rfl ?_
 intro Q0 hRet hNor hPan
 have H := Hp.start w
 refine G.sr fun K1 hK2 => ?_
 refine GL.r 1 1 [(0, vw x), (1, li 17)] ?_
 refine GL.q hK2 ?_
 refine G.sr fun K3 hK4 => ?_
 refine GL.r 3 3 [(5, vw x), (7, li (-17))] ?_
 refine GL.call (j := 4) (Rot17_calls x hx w) (by kernel_rfl) rfl (fun e_ w5 hR => ?_)
 obtain ⟨rfl, H7⟩ := hR
 have H6 : Hp w [] [] w5 := H.callNil H7
 refine ⟨_, rfl, [8], [(8, vw (rt x 17))], by kernel_rfl, ?_⟩
 refine GL.r 5 1 [(4, vw (rt x 17))] ?_
 refine GL.q hK4 ?_
 refine G.ret fun F_ hF_ hM_ => hRet _ _ (bodyPost_1 rfl (RV.tmp rfl) ?_ F_ hF_ hM_)
 exact ⟨rfl, H6⟩
theorem Rot18_calls (x : Nat) (hx : x < W32) (w : World) : Calls Try.prog 81 #[.int .u32 (x : Int), .int .i64 (-18)] w fun e w' => e = .returned (.int .u32 ((rt x 18 : Nat) : Int)) ∧ Hp w [] [] w' := by
 refine calls_G (args := [vw x, li (-18)]) Try.func81 rfl Try.ntmps81 rfl ?_
 intro Q0 hRet hNor hPan
 have H := Hp.start w
 refine G.sr fun K1 hK2 => ?_
 refine GL.r 1 1 [(0, vw x), (1, li (-18))] ?_
 refine GL.q hK2 ?_
 refine G.sr fun K3 hK4 => ?_
 refine GL.r 4 4 [(0, vw x), (5, lu 14)] ?_
 refine GL.q hK4 ?_
 refine G.sr fun K5 hK6 => ?_
 refine GL.r 9 9 [(4, lw (Go.bits .or .u32 (IntKind.u32.wrap ((x : Int) * 2 ^ 14)) (Int.fdiv (x : Int) (2 ^ 18))))] ?_
 have e7 : (IntKind.u32.wrap ((x : Int) * 2 ^ 14)) = ((x * 2 ^ 14 % W32 : Nat) : Int) := w_shl x 14
 have e8 : (Int.fdiv (x : Int) (2 ^ 18)) = ((x / 2 ^ 18 : Nat) : Int) := n_shr x 18
 have e9 : (Go.bits .or .u32 ((x * 2 ^ 14 % W32 : Nat) : Int) ((x / 2 ^ 18 : Nat) : Int)) = ((rt x 18 : Nat) : Int) := w_or (Nat.mod_lt _ (by decide)) (Nat.lt_of_le_of_lt (Nat.div_le_self _ _) hx)
 rw [e7, e8, e9]
 clear e7 e8 e9
 refine GL.q hK6 ?_
 refine G.ret fun F_ hF_ hM_ => hRet _ _ (bodyPost_1 rfl (RV.tmp rfl) ?_ F_ hF_ hM_)
 exact ⟨rfl, H⟩
theorem Turn18_calls (x : Nat) (hx : x < W32) (w : World) : Calls Try.prog 79 #[.int .u32 (x : Int), .int .i64 18] w fun e w' => e = .returned (.int .u32 ((rt x 18 : Nat) : Int)) ∧ Hp w [] [] w' := by
 refine calls_G (args := [vw x, li 18]) Try.func79 rfl Try.ntmps79 rfl ?_
 intro Q0 hRet hNor hPan
 have H := Hp.start w
 refine G.sr fun K1 hK2 => ?_
 refine GL.r 1 1 [(0, vw x), (1, li 18)] ?_
 refine GL.q hK2 ?_
 refine G.sr fun K3 hK4 => ?_
 refine GL.r 3 3 [(5, vw x), (7, li (-18))] ?_
 refine GL.call (j := 4) (Rot18_calls x hx w) (by kernel_rfl) rfl (fun e_ w5 hR => ?_)
 obtain ⟨rfl, H7⟩ := hR
 have H6 : Hp w [] [] w5 := H.callNil H7
 refine ⟨_, rfl, [8], [(8, vw (rt x 18))], by kernel_rfl, ?_⟩
 refine GL.r 5 1 [(4, vw (rt x 18))] ?_
 refine GL.q hK4 ?_
 refine G.ret fun F_ hF_ hM_ => hRet _ _ (bodyPost_1 rfl (RV.tmp rfl) ?_ F_ hF_ hM_)
 exact ⟨rfl, H6⟩
theorem Rot19_calls (x : Nat) (hx : x < W32) (w : World) : Calls Try.prog 81 #[.int .u32 (x : Int), .int .i64 (-19)] w fun e w' => e = .returned (.int .u32 ((rt x 19 : Nat) : Int)) ∧ Hp w [] [] w' := by
 refine calls_G (args := [vw x, li (-19)]) Try.func81 rfl Try.ntmps81 rfl ?_
 intro Q0 hRet hNor hPan
 have H := Hp.start w
 refine G.sr fun K1 hK2 => ?_
 refine GL.r 1 1 [(0, vw x), (1, li (-19))] ?_
 refine GL.q hK2 ?_
 refine G.sr fun K3 hK4 => ?_
 refine GL.r 4 4 [(0, vw x), (5, lu 13)] ?_
 refine GL.q hK4 ?_
 refine G.sr fun K5 hK6 => ?_
 refine GL.r 9 9 [(4, lw (Go.bits .or .u32 (IntKind.u32.wrap ((x : Int) * 2 ^ 13)) (Int.fdiv (x : Int) (2 ^ 19))))] ?_
 have e7 : (IntKind.u32.wrap ((x : Int) * 2 ^ 13)) = ((x * 2 ^ 13 % W32 : Nat) : Int) := w_shl x 13
 have e8 : (Int.fdiv (x : Int) (2 ^ 19)) = ((x / 2 ^ 19 : Nat) : Int) := n_shr x 19
 have e9 : (Go.bits .or .u32 ((x * 2 ^ 13 % W32 : Nat) : Int) ((x / 2 ^ 19 : Nat) : Int)) = ((rt x 19 : Nat) : Int) := w_or (Nat.mod_lt _ (by decide)) (Nat.lt_of_le_of_lt (Nat.div_le_self _ _) hx)
 rw [e7, e8, e9]
 clear e7 e8 e9
 refine GL.q hK6 ?_
 refine G.ret fun F_ hF_ hM_ => hRet _ _ (bodyPost_1 rfl (RV.tmp rfl) ?_ F_ hF_ hM_)
 exact ⟨rfl, H⟩
theorem Turn19_calls (x : Nat) (hx : x < W32) (w : World) : Calls Try.prog 79 #[.int .u32 (x : Int), .int .i64 19] w fun e w' => e = .returned (.int .u32 ((rt x 19 : Nat) : Int)) ∧ Hp w [] [] w' := by
 refine calls_G (args := [vw x, li 19]) Try.func79 rfl Try.ntmps79 rfl ?_
 intro Q0 hRet hNor hPan
 have H := Hp.start w
 refine G.sr fun K1 hK2 => ?_
 refine GL.r 1 1 [(0, vw x), (1, li 19)] ?_
 refine GL.q hK2 ?_
 refine G.sr fun K3 hK4 => ?_
 refine GL.r 3 3 [(5, vw x), (7, li (-19))] ?_
 refine GL.call (j := 4) (Rot19_calls x hx w) (by kernel_rfl) rfl (fun e_ w5 hR => ?_)
 obtain ⟨rfl, H7⟩ := hR
 have H6 : Hp w [] [] w5 := H.callNil H7
 refine ⟨_, rfl, [8], [(8, vw (rt x 19))], by kernel_rfl, ?_⟩
 refine GL.r 5 1 [(4, vw (rt x 19))] ?_
 refine GL.q hK4 ?_
 refine G.ret fun F_ hF_ hM_ => hRet _ _ (bodyPost_1 rfl (RV.tmp rfl) ?_ F_ hF_ hM_)
 exact ⟨rfl, H6⟩
theorem Rot22_calls (x : Nat) (hx : x < W32) (w : World) : Calls Try.prog 81 #[.int .u32 (x : Int), .int .i64 (-22)] w fun e w' => e = .returned (.int .u32 ((rt x 22 : Nat) : Int)) ∧ Hp w [] [] w' := by
 refine calls_G (args := [vw x, li (-22)]) Try.func81 rfl Try.ntmps81 rfl ?_
 intro Q0 hRet hNor hPan
 have H := Hp.start w
 refine G.sr fun K1 hK2 => ?_
 refine GL.r 1 1 [(0, vw x), (1, li (-22))] ?_
 refine GL.q hK2 ?_
 refine G.sr fun K3 hK4 => ?_
 refine GL.r 4 4 [(0, vw x), (5, lu 10)] ?_
 refine GL.q hK4 ?_
 refine G.sr fun K5 hK6 => ?_
 refine GL.r 9 9 [(4, lw (Go.bits .or .u32 (IntKind.u32.wrap ((x : Int) * 2 ^ 10)) (Int.fdiv (x : Int) (2 ^ 22))))] ?_
 have e7 : (IntKind.u32.wrap ((x : Int) * 2 ^ 10)) = ((x * 2 ^ 10 % W32 : Nat) : Int) := w_shl x 10
 have e8 : (Int.fdiv (x : Int) (2 ^ 22)) = ((x / 2 ^ 22 : Nat) : Int) := n_shr x 22
 have e9 : (Go.bits .or .u32 ((x * 2 ^ 10 % W32 : Nat) : Int) ((x / 2 ^ 22 : Nat) : Int)) = ((rt x 22 : Nat) : Int) := w_or (Nat.mod_lt _ (by decide)) (Nat.lt_of_le_of_lt (Nat.div_le_self _ _) hx)
 rw [e7, e8, e9]
 clear e7 e8 e9
 refine GL.q hK6 ?_
 refine G.ret fun F_ hF_ hM_ => hRet _ _ (bodyPost_1 rfl (RV.tmp rfl) ?_ F_ hF_ hM_)
 exact ⟨rfl, H⟩
theorem Turn22_calls (x : Nat) (hx : x < W32) (w : World) : Calls Try.prog 79 #[.int .u32 (x : Int), .int .i64 22] w fun e w' => e = .returned (.int .u32 ((rt x 22 : Nat) : Int)) ∧ Hp w [] [] w' := by
 refine calls_G (args := [vw x, li 22]) Try.func79 rfl Try.ntmps79 rfl ?_
 intro Q0 hRet hNor hPan
 have H := Hp.start w
 refine G.sr fun K1 hK2 => ?_
 refine GL.r 1 1 [(0, vw x), (1, li 22)] ?_
 refine GL.q hK2 ?_
 refine G.sr fun K3 hK4 => ?_
 refine GL.r 3 3 [(5, vw x), (7, li (-22))] ?_
 refine GL.call (j := 4) (Rot22_calls x hx w) (by kernel_rfl) rfl (fun e_ w5 hR => ?_)
 obtain ⟨rfl, H7⟩ := hR
 have H6 : Hp w [] [] w5 := H.callNil H7
 refine ⟨_, rfl, [8], [(8, vw (rt x 22))], by kernel_rfl, ?_⟩
 refine GL.r 5 1 [(4, vw (rt x 22))] ?_
 refine GL.q hK4 ?_
 refine G.ret fun F_ hF_ hM_ => hRet _ _ (bodyPost_1 rfl (RV.tmp rfl) ?_ F_ hF_ hM_)
 exact ⟨rfl, H6⟩
theorem Rot25_calls (x : Nat) (hx : x < W32) (w : World) : Calls Try.prog 81 #[.int .u32 (x : Int), .int .i64 (-25)] w fun e w' => e = .returned (.int .u32 ((rt x 25 : Nat) : Int)) ∧ Hp w [] [] w' := by
 refine calls_G (args := [vw x, li (-25)]) Try.func81 rfl Try.ntmps81 rfl ?_
 intro Q0 hRet hNor hPan
 have H := Hp.start w
 refine G.sr fun K1 hK2 => ?_
 refine GL.r 1 1 [(0, vw x), (1, li (-25))] ?_
 refine GL.q hK2 ?_
 refine G.sr fun K3 hK4 => ?_
 refine GL.r 4 4 [(0, vw x), (5, lu 7)] ?_
 refine GL.q hK4 ?_
 refine G.sr fun K5 hK6 => ?_
 refine GL.r 9 9 [(4, lw (Go.bits .or .u32 (IntKind.u32.wrap ((x : Int) * 2 ^ 7)) (Int.fdiv (x : Int) (2 ^ 25))))] ?_
 have e7 : (IntKind.u32.wrap ((x : Int) * 2 ^ 7)) = ((x * 2 ^ 7 % W32 : Nat) : Int) := w_shl x 7
 have e8 : (Int.fdiv (x : Int) (2 ^ 25)) = ((x / 2 ^ 25 : Nat) : Int) := n_shr x 25
 have e9 : (Go.bits .or .u32 ((x * 2 ^ 7 % W32 : Nat) : Int) ((x / 2 ^ 25 : Nat) : Int)) = ((rt x 25 : Nat) : Int) := w_or (Nat.mod_lt _ (by decide)) (Nat.lt_of_le_of_lt (Nat.div_le_self _ _) hx)
 rw [e7, e8, e9]
 clear e7 e8 e9
 refine GL.q hK6 ?_
 refine G.ret fun F_ hF_ hM_ => hRet _ _ (bodyPost_1 rfl (RV.tmp rfl) ?_ F_ hF_ hM_)
 exact ⟨rfl, H⟩
theorem Turn25_calls (x : Nat) (hx : x < W32) (w : World) : Calls Try.prog 79 #[.int .u32 (x : Int), .int .i64 25] w fun e w' => e = .returned (.int .u32 ((rt x 25 : Nat) : Int)) ∧ Hp w [] [] w' := by
 refine calls_G (args := [vw x, li 25]) Try.func79 rfl Try.ntmps79 rfl ?_
 intro Q0 hRet hNor hPan
 have H := Hp.start w
 refine G.sr fun K1 hK2 => ?_
 refine GL.r 1 1 [(0, vw x), (1, li 25)] ?_
 refine GL.q hK2 ?_
 refine G.sr fun K3 hK4 => ?_
 refine GL.r 3 3 [(5, vw x), (7, li (-25))] ?_
 refine GL.call (j := 4) (Rot25_calls x hx w) (by kernel_rfl) rfl (fun e_ w5 hR => ?_)
 obtain ⟨rfl, H7⟩ := hR
 have H6 : Hp w [] [] w5 := H.callNil H7
 refine ⟨_, rfl, [8], [(8, vw (rt x 25))], by kernel_rfl, ?_⟩
 refine GL.r 5 1 [(4, vw (rt x 25))] ?_
 refine GL.q hK4 ?_
 refine G.ret fun F_ hF_ hM_ => hRet _ _ (bodyPost_1 rfl (RV.tmp rfl) ?_ F_ hF_ hM_)
 exact ⟨rfl, H6⟩
abbrev lz1 : List Value := [lw 1116352408, lw 1899447441, lw 3049323471, lw 3921009573, lw 961987163, lw 1508970993, lw 2453635748, lw 2870763221, lw 3624381080, lw 310598401, lw 607225278, lw 1426881987, lw 1925078388, lw 2162078206, lw 2614888103, lw 3248222580, lw 3835390401, lw 4022224774, lw 264347078, lw 604807628, lw 770255983, lw 1249150122, lw 1555081692, lw 1996064986, lw 2554220882, lw 2821834349, lw 2952996808, lw 3210313671, lw 3336571891, lw 3584528711, lw 113926993, lw 338241895, lw 666307205, lw 773529912, lw 1294757372, lw 1396182291, lw 1695183700, lw 1986661051, lw 2177026350, lw 2456956037, lw 2730485921, lw 2820302411, lw 3259730800, lw 3345764771, lw 3516065817, lw 3600352804, lw 4094571909, lw 275423344, lw 430227734, lw 506948616, lw 659060556, lw 883997877, lw 958139571, lw 1322822218, lw 1537002063, lw 1747873779, lw 1955562222, lw 2024104815, lw 2227730452, lw 2361852424, lw 2428436474, lw 2756734187, lw 3204031479, lw 3329325298]
theorem Constants_calls (w : World) : Calls Try.prog 80 #[] w fun e w' => e = .returned (.agg (u32s KT).toArray) ∧ Hp w [] [] w' := by
 refine calls_G (args := []) Try.func80 rfl Try.ntmps80 rfl ?_
 intro Q0 hRet hNor hPan
 have H := Hp.start w
 refine G.sr fun K1 hK2 => ?_
 obtain ⟨p3, w4, r5, H6⟩ := H.alloc (P := Try.prog) 119 [lw 0, lw 0, lw 0, lw 0, lw 0, lw 0, lw 0, lw 0, lw 0, lw 0, lw 0, lw 0, lw 0, lw 0, lw 0, lw 0, lw 0, lw 0, lw 0, lw 0, lw 0, lw 0, lw 0, lw 0, lw 0, lw 0, lw 0, lw 0, lw 0, lw 0, lw 0, lw 0, lw 0, lw 0, lw 0, lw 0, lw 0, lw 0, lw 0, lw 0, lw 0, lw 0, lw 0, lw 0, lw 0, lw 0, lw 0, lw 0, lw 0, lw 0, lw 0, lw 0, lw 0, lw 0, lw 0, lw 0, lw 0, lw 0, lw 0, lw 0, lw 0, lw 0, lw 0, lw 0] (by kernel_rfl)
 refine GL.s 1 (r5) [(0, pt p3 0)] ?_
 refine GL.q hK2 ?_
 refine G.sr fun K7 hK8 => ?_
 refine GL.r 1 1 [(0, pt p3 0), (1, .agg lz1.toArray)] ?_
 obtain ⟨w9, r10, H11⟩ := H6.stA (P := Try.prog) (o := 0) (vs := lz1) (ty := 119) (m := 64) 0 rfl (by kernel_rfl) rfl (by simp) (by simp [Value.oneCell'])
 refine GL.u 2 r10 [(0, pt p3 0)] ?_
 refine GL.q hK8 ?_
 refine G.ret fun F_ hF_ hM_ => hRet _ _ (bodyPost_1 rfl (RV.cell rfl (H11.ldA (o := 0) (ty := 119) (m := 64) (sub := lz1) 0 rfl (by kernel_rfl) rfl rfl)) ?_ F_ hF_ hM_)
 exact ⟨rfl, H11.sub (List.nil_sublist _)⟩
abbrev lz2 : List Value := [lw 0, lw 0, lw 0, lw 0, lw 0, lw 0, lw 0, lw 0]
theorem Block_calls (S : List Nat) (q : Nat) (A : Option Addr) (C : Nat) (p : List UInt8) (s : V8) (w : World) (h0 : Hp w S [.blk q (v8c s) 130] w) (hs : ok8 s) (hx : RdO w S A (by8 p)) (hp : p.length = 64) (hC : 64 ≤ C) : Calls Try.prog 75 #[pt q 0, .slice A 64 C] w fun e w' => e = .returned (.tuple #[]) ∧ Hp w S [.blk q (v8c (blockF s p)) 130] w' := by
 obtain ⟨s0, s1, s2, s3, s4, s5, s6, s7⟩ := s
 have ⟨h1, h2, h3, h4, h5, h6, h7, h8⟩ := hs
 refine calls_G (args := [pt q 0, .slice A 64 C]) Try.func75 rfl Try.ntmps75 rfl ?_
 intro Q0 hRet hNor hPan
 have H := h0
 refine G.sr fun K1 hK2 => ?_
 obtain ⟨p3, w4, r5, H6⟩ := H.alloc (P := Try.prog) 119 (u32s (wsP p 0)) (by kernel_rfl)
 refine GL.s 1 (r5) [(0, pt q 0), (1, .slice A 64 C), (4, pt p3 0)] ?_
 refine GL.q hK2 ?_
 refine G.seqK fun K7 hK8 => ?_
 refine G.sr fun K9 hK10 => ?_
 refine GL.r 1 1 [(0, pt q 0), (1, .slice A 64 C), (4, pt p3 0), (21, li 0)] ?_
 refine GL.q hK10 ?_
 refine G.block ?_
 refine G.fit [0, 1, 4, 21] (M' := [(0, pt q 0), (1, .slice A 64 C), (4, pt p3 0), (21, li 0)]) (by kernel_rfl) ?_
 refine G.loop (X := Nat) (fun i => [(0, pt q 0), (1, .slice A 64 C), (4, pt p3 0), (21, vi i)]) (fun i w_ => (i ≤ 64) ∧ Hp w S [.blk q (c8 s0 s1 s2 s3 s4 s5 s6 s7) 130, .blk p3 (u32s (wsP p i)) 119] w_) (fun i => 64 - i) 0 [0, 1, 4, 21] (by kernel_rfl) ⟨by omega, H6⟩ ?_
 rintro i w11 ⟨hi12, H13⟩
 refine G.eq (M' := [(0, pt q 0), (1, .slice A 64 C), (4, pt p3 0), (21, vi i)]) rfl ?_
 have hi64 := hi12
 refine G.sr fun K14 hK15 => ?_
 refine GL.r 1 1 [(0, pt q 0), (1, .slice A 64 C), (4, pt p3 0), (21, vi i), (22, .bool (decide ((i : Int) < 64)))] ?_
 refine GL.q hK15 ?_
 refine G.seqK fun K16 hK17 => ?_
 cases hb18 : (decide ((i : Int) < 64))
 · skip
   have hb18f := of_decide_eq_false hb18
   refine G.no rfl ?_
   refine G.exitK hK8 (fun _ _ h => h) ?_
   refine G.seqK fun K19 hK20 => ?_
   refine G.heldP (Hp w S [.blk q (c8 s0 s1 s2 s3 s4 s5 s6 s7) 130, .blk p3 (u32s (wsP p i)) 119]) (by kernel_rfl) (by kernel_rfl) (fun c_ a_ d_ v_ w_ h_ => hPan c_ a_ d_ v_ w_ h_) ?_
   have H21 := H13.drew
   generalize ({ w11 with drawn := w11.drawn + 1 } : World) = w22 at H21 ⊢
   have hS23 : Hp w S [.blk q (c8 s0 s1 s2 s3 s4 s5 s6 s7) 130, .blk p3 (u32s (wsP p i)) 119] w22 := H21.sub (List.Sublist.cons_cons _ (List.Sublist.cons_cons _ (List.Sublist.slnil)))
   refine GP.r [1, 2] [(0, pt q 0), (4, pt p3 0), (90, pt q 0)] [1, 2] hS23 ?_
   refine GP.s 3 (fun w_ H_ => H_.ldA (o := 0) (ty := 130) (m := 8) (sub := (c8 s0 s1 s2 s3 s4 s5 s6 s7)) 0 rfl (by kernel_rfl) rfl rfl) [(0, pt q 0), (4, pt p3 0), (91, .agg #[vw s0, vw s1, vw s2, vw s3, vw s4, vw s5, vw s6, vw s7])] hS23 ?_
   refine GP.named fun Xd_ hXd_ => ?_
   have st87 : ∀ (wD_ : World) (p38 : Nat) (p66 : Nat), Hp w S [.blk q (c8 s0 s1 s2 s3 s4 s5 s6 s7) 130, .blk p3 (u32s (wsP p i)) 119, .blk p38 (u32s (wsP p 0)) 119, .blk p66 [.int .u32 0, .int .u32 0, .int .u32 0, .int .u32 0, .int .u32 0, .int .u32 0, .int .u32 0, .int .u32 0] 130] wD_ → Xd_ [1, 2, 3, 0, 4, 5] [(0, pt q 0), (4, pt p3 0), (12, pt p38 0), (13, pt p66 0), (88, .agg (u32s KT).toArray), (91, .agg #[.int .u32 (s0 : Int), .int .u32 (s1 : Int), .int .u32 (s2 : Int), .int .u32 (s3 : Int), .int .u32 (s4 : Int), .int .u32 (s5 : Int), .int .u32 (s6 : Int), .int .u32 (s7 : Int)])] wD_ := by
     intro wD_ p38 p66 HD_
     rw [hXd_]
     have hS88 : Hp w S [.blk q (c8 s0 s1 s2 s3 s4 s5 s6 s7) 130, .blk p3 (u32s (wsP p i)) 119] wD_ := HD_.sub (List.Sublist.cons_cons _ (List.Sublist.cons_cons _ (List.Sublist.cons _ (List.Sublist.cons _ (List.Sublist.slnil)))))
     obtain ⟨w89, r90, H91⟩ := HD_.stA (P := Try.prog) (o := 0) (vs := u32s KT) (ty := 119) (m := 64) 2 rfl (by kernel_rfl) rfl (by rw [u32s_length, wsP_length (by omega)]; omega) (u32s_one _)
     rw [st_whole (by rw [u32s_length, wsP_length (by omega)])] at H91
     have hS92 : Hp w S [.blk q (c8 s0 s1 s2 s3 s4 s5 s6 s7) 130, .blk p3 (u32s (wsP p i)) 119] w89 := H91.sub (List.Sublist.cons_cons _ (List.Sublist.cons_cons _ (List.Sublist.cons _ (List.Sublist.cons _ (List.Sublist.slnil)))))
     refine GP.semU 6 r90 [0, 4, 12, 13, 91] [(0, pt q 0), (4, pt p3 0), (12, pt p38 0), (13, pt p66 0), (91, .agg #[vw s0, vw s1, vw s2, vw s3, vw s4, vw s5, vw s6, vw s7])] (by kernel_rfl) rfl rfl (by kernel_rfl) hS92 ?_
     obtain ⟨w93, r94, H95⟩ := H91.stA (P := Try.prog) (o := 0) (vs := (c8 s0 s1 s2 s3 s4 s5 s6 s7)) (ty := 130) (m := 8) 3 rfl (by kernel_rfl) rfl (by exact Nat.le_refl _) (c8_one)
     have hS96 : Hp w S [.blk q (c8 s0 s1 s2 s3 s4 s5 s6 s7) 130, .blk p3 (u32s (wsP p i)) 119] w93 := H95.sub (List.Sublist.cons_cons _ (List.Sublist.cons_cons _ (List.Sublist.cons _ (List.Sublist.cons _ (List.Sublist.slnil)))))
     refine GP.semU 7 r94 [0, 4, 12, 13] [(0, pt q 0), (4, pt p3 0), (12, pt p38 0), (13, pt p66 0)] (by kernel_rfl) rfl rfl (by kernel_rfl) hS96 ?_
     refine GP.k (by kernel_rfl) hK20 (fun _ _ h => h) ?_
     refine G.seqK fun K97 hK98 => ?_
     refine G.sr fun K99 hK100 => ?_
     refine GL.r 1 1 [(0, pt q 0), (4, pt p3 0), (12, pt p38 0), (13, pt p66 0), (92, li 0)] ?_
     refine GL.q hK100 ?_
     refine G.block ?_
     obtain rfl : i = 64 := by omega
     have H101 : Hp w S [.blk q (c8 s0 s1 s2 s3 s4 s5 s6 s7) 130, .blk p3 (u32s (wsP p 64)) 119, .blk p38 (u32s KT) 119, .blk p66 (c8 s0 s1 s2 s3 s4 s5 s6 s7) 130] w93 := (Hp.reorder (L' := [.blk q (c8 s0 s1 s2 s3 s4 s5 s6 s7) 130, .blk p3 (u32s (wsP p 64)) 119, .blk p38 (u32s KT) 119, .blk p66 (c8 s0 s1 s2 s3 s4 s5 s6 s7) 130]) H95 (List.Perm.refl _))
     refine G.fit [0, 4, 12, 13, 92] (M' := [(0, pt q 0), (4, pt p3 0), (12, pt p38 0), (13, pt p66 0), (92, li 0)]) (by kernel_rfl) ?_
     refine G.loop (X := Nat × Nat × Nat × Nat × Nat × Nat × Nat × Nat × Nat) (fun ⟨i, a, b, c_, d, e, f, g, h⟩ => [(0, pt q 0), (4, pt p3 0), (12, pt p38 0), (13, pt p66 0), (92, vi i)]) (fun ⟨i, a, b, c_, d, e, f, g, h⟩ w_ => (i ≤ 64 ∧ (a, b, c_, d, e, f, g, h) = shaR p (s0, s1, s2, s3, s4, s5, s6, s7) i) ∧ Hp w S [.blk q (c8 s0 s1 s2 s3 s4 s5 s6 s7) 130, .blk p3 (u32s (wsP p 64)) 119, .blk p38 (u32s KT) 119, .blk p66 (c8 a b c_ d e f g h) 130] w_) (fun ⟨i, a, b, c_, d, e, f, g, h⟩ => 64 - i) ⟨0, s0, s1, s2, s3, s4, s5, s6, s7⟩ [0, 4, 12, 13, 92] (by kernel_rfl) ⟨⟨by omega, rfl⟩, H101⟩ ?_
     rintro ⟨i, a, b, c_, d, e, f, g, h⟩ w102 ⟨hi103, H104⟩
     refine G.eq (M' := [(0, pt q 0), (4, pt p3 0), (12, pt p38 0), (13, pt p66 0), (92, vi i)]) rfl ?_
     have hi64 := hi103.1
     have hv8 := hi103.2
     have ho8 := ok8_rounds (p := p) hs i
     rw [← hv8] at ho8
     obtain ⟨ha, hb, hc, hd, he, hf, hg, hh⟩ := ho8
     refine G.sr fun K105 hK106 => ?_
     refine GL.r 1 1 [(0, pt q 0), (4, pt p3 0), (12, pt p38 0), (13, pt p66 0), (92, vi i), (93, .bool (decide ((i : Int) < 64)))] ?_
     refine GL.q hK106 ?_
     refine G.seqK fun K107 hK108 => ?_
     cases hb109 : (decide ((i : Int) < 64))
     · skip
       have hb109f := of_decide_eq_false hb109
       refine G.no rfl ?_
       refine G.exitK hK98 (fun _ _ h => h) ?_
       refine G.sr fun K110 hK111 => ?_
       refine GL.s 1 (H104.ldA (o := 0) (ty := 130) (m := 8) (sub := (c8 a b c_ d e f g h)) 3 rfl (by kernel_rfl) rfl rfl) [(0, pt q 0), (182, .agg #[vw a, vw b, vw c_, vw d, vw e, vw f, vw g, vw h])] ?_
       refine GL.r 2 1 [(0, pt q 0), (182, .agg #[vw a, vw b, vw c_, vw d, vw e, vw f, vw g, vw h]), (183, li 0)] ?_
       refine GL.q hK111 ?_
       refine G.block ?_
       refine G.unroll 9 ?_
       refine G.sr fun K112 hK113 => ?_
       refine GL.r 1 1 [(0, pt q 0), (182, .agg #[vw a, vw b, vw c_, vw d, vw e, vw f, vw g, vw h]), (183, li 0), (184, .bool true)] ?_
       refine GL.q hK113 ?_
       refine G.seqK fun K114 hK115 => ?_
       refine G.yes rfl ?_
       refine G.skipK hK115 (fun _ _ h => h) ?_
       refine G.seqK fun K116 hK117 => ?_
       refine G.block ?_
       refine G.sr fun K118 hK119 => ?_
       refine GL.r 4 4 [(0, pt q 0), (19, li 0), (20, vw a), (182, .agg #[vw a, vw b, vw c_, vw d, vw e, vw f, vw g, vw h]), (183, li 0)] ?_
       refine GL.q hK119 ?_
       refine G.tail 9 (by kernel_rfl) (by kernel_rfl) ?_
       have H120 := H104.drew
       generalize ({ w102 with drawn := w102.drawn + 1 } : World) = w121 at H120 ⊢
       refine GS.r 4 4 [(0, pt q 0), (20, vw a), (182, .agg #[vw a, vw b, vw c_, vw d, vw e, vw f, vw g, vw h]), (183, li 0), (187, pt q 0), (188, li 0), (190, pt q 0)] ?_
       refine GS.s 5 (H120.ld (o := 0) (ty := 22) (v := vw s0) 0 rfl (by kernel_rfl) rfl) [(0, pt q 0), (20, vw a), (182, .agg #[vw a, vw b, vw c_, vw d, vw e, vw f, vw g, vw h]), (183, li 0), (187, pt q 0), (188, li 0), (191, vw s0)] ?_
       refine GS.r 9 4 [(0, pt q 0), (182, .agg #[vw a, vw b, vw c_, vw d, vw e, vw f, vw g, vw h]), (183, li 0), (193, lw (IntKind.u32.wrap ((s0 : Int) + (a : Int)))), (195, pt q 0)] ?_
       have e122 : (IntKind.u32.wrap ((s0 : Int) + (a : Int))) = (((s0 + a) % W32 : Nat) : Int) := w_add _ _
       rw [e122]
       clear e122
       refine GS.tail rfl ?_
       obtain ⟨w123, r124, H125⟩ := H120.st (P := Try.prog) (o := 0) (ty := 22) (v := vw ((s0 + a) % W32)) 0 rfl (by kernel_rfl) (by show 0 < 8; decide) rfl
       refine GL.u 10 r124 [(0, pt q 0), (182, .agg #[vw a, vw b, vw c_, vw d, vw e, vw f, vw g, vw h]), (183, li 0)] ?_
       refine GL.q hK117 ?_
       refine G.region ?_
       refine GL.r 2 2 [(0, pt q 0), (182, .agg #[vw a, vw b, vw c_, vw d, vw e, vw f, vw g, vw h]), (183, li 1)] ?_
       refine GL.round rfl ?_
       refine G.sr fun K126 hK127 => ?_
       refine GL.r 1 1 [(0, pt q 0), (182, .agg #[vw a, vw b, vw c_, vw d, vw e, vw f, vw g, vw h]), (183, li 1), (184, .bool true)] ?_
       refine GL.q hK127 ?_
       refine G.seqK fun K128 hK129 => ?_
       refine G.yes rfl ?_
       refine G.skipK hK129 (fun _ _ h => h) ?_
       refine G.seqK fun K130 hK131 => ?_
       refine G.block ?_
       refine G.sr fun K132 hK133 => ?_
       refine GL.r 4 4 [(0, pt q 0), (19, li 1), (20, vw b), (182, .agg #[vw a, vw b, vw c_, vw d, vw e, vw f, vw g, vw h]), (183, li 1)] ?_
       refine GL.q hK133 ?_
       refine G.tail 9 (by kernel_rfl) (by kernel_rfl) ?_
       have H134 := H125.drew
       generalize ({ w123 with drawn := w123.drawn + 1 } : World) = w135 at H134 ⊢
       refine GS.r 4 4 [(0, pt q 0), (20, vw b), (182, .agg #[vw a, vw b, vw c_, vw d, vw e, vw f, vw g, vw h]), (183, li 1), (187, pt q 0), (188, li 1), (190, pt q 1)] ?_
       refine GS.s 5 (H134.ld (o := 1) (ty := 22) (v := vw s1) 0 rfl (by kernel_rfl) rfl) [(0, pt q 0), (20, vw b), (182, .agg #[vw a, vw b, vw c_, vw d, vw e, vw f, vw g, vw h]), (183, li 1), (187, pt q 0), (188, li 1), (191, vw s1)] ?_
       refine GS.r 9 4 [(0, pt q 0), (182, .agg #[vw a, vw b, vw c_, vw d, vw e, vw f, vw g, vw h]), (183, li 1), (193, lw (IntKind.u32.wrap ((s1 : Int) + (b : Int)))), (195, pt q 1)] ?_
       have e136 : (IntKind.u32.wrap ((s1 : Int) + (b : Int))) = (((s1 + b) % W32 : Nat) : Int) := w_add _ _
       rw [e136]
       clear e136
       refine GS.tail rfl ?_
       obtain ⟨w137, r138, H139⟩ := H134.st (P := Try.prog) (o := 1) (ty := 22) (v := vw ((s1 + b) % W32)) 0 rfl (by kernel_rfl) (by show 1 < 8; decide) rfl
       refine GL.u 10 r138 [(0, pt q 0), (182, .agg #[vw a, vw b, vw c_, vw d, vw e, vw f, vw g, vw h]), (183, li 1)] ?_
       refine GL.q hK131 ?_
       refine G.region ?_
       refine GL.r 2 2 [(0, pt q 0), (182, .agg #[vw a, vw b, vw c_, vw d, vw e, vw f, vw g, vw h]), (183, li 2)] ?_
       refine GL.round rfl ?_
       refine G.sr fun K140 hK141 => ?_
       refine GL.r 1 1 [(0, pt q 0), (182, .agg #[vw a, vw b, vw c_, vw d, vw e, vw f, vw g, vw h]), (183, li 2), (184, .bool true)] ?_
       refine GL.q hK141 ?_
       refine G.seqK fun K142 hK143 => ?_
       refine G.yes rfl ?_
       refine G.skipK hK143 (fun _ _ h => h) ?_
       refine G.seqK fun K144 hK145 => ?_
       refine G.block ?_
       refine G.sr fun K146 hK147 => ?_
       refine GL.r 4 4 [(0, pt q 0), (19, li 2), (20, vw c_), (182, .agg #[vw a, vw b, vw c_, vw d, vw e, vw f, vw g, vw h]), (183, li 2)] ?_
       refine GL.q hK147 ?_
       refine G.tail 9 (by kernel_rfl) (by kernel_rfl) ?_
       have H148 := H139.drew
       generalize ({ w137 with drawn := w137.drawn + 1 } : World) = w149 at H148 ⊢
       refine GS.r 4 4 [(0, pt q 0), (20, vw c_), (182, .agg #[vw a, vw b, vw c_, vw d, vw e, vw f, vw g, vw h]), (183, li 2), (187, pt q 0), (188, li 2), (190, pt q 2)] ?_
       refine GS.s 5 (H148.ld (o := 2) (ty := 22) (v := vw s2) 0 rfl (by kernel_rfl) rfl) [(0, pt q 0), (20, vw c_), (182, .agg #[vw a, vw b, vw c_, vw d, vw e, vw f, vw g, vw h]), (183, li 2), (187, pt q 0), (188, li 2), (191, vw s2)] ?_
       refine GS.r 9 4 [(0, pt q 0), (182, .agg #[vw a, vw b, vw c_, vw d, vw e, vw f, vw g, vw h]), (183, li 2), (193, lw (IntKind.u32.wrap ((s2 : Int) + (c_ : Int)))), (195, pt q 2)] ?_
       have e150 : (IntKind.u32.wrap ((s2 : Int) + (c_ : Int))) = (((s2 + c_) % W32 : Nat) : Int) := w_add _ _
       rw [e150]
       clear e150
       refine GS.tail rfl ?_
       obtain ⟨w151, r152, H153⟩ := H148.st (P := Try.prog) (o := 2) (ty := 22) (v := vw ((s2 + c_) % W32)) 0 rfl (by kernel_rfl) (by show 2 < 8; decide) rfl
       refine GL.u 10 r152 [(0, pt q 0), (182, .agg #[vw a, vw b, vw c_, vw d, vw e, vw f, vw g, vw h]), (183, li 2)] ?_
       refine GL.q hK145 ?_
       refine G.region ?_
       refine GL.r 2 2 [(0, pt q 0), (182, .agg #[vw a, vw b, vw c_, vw d, vw e, vw f, vw g, vw h]), (183, li 3)] ?_
       refine GL.round rfl ?_
       refine G.sr fun K154 hK155 => ?_
       refine GL.r 1 1 [(0, pt q 0), (182, .agg #[vw a, vw b, vw c_, vw d, vw e, vw f, vw g, vw h]), (183, li 3), (184, .bool true)] ?_
       refine GL.q hK155 ?_
       refine G.seqK fun K156 hK157 => ?_
       refine G.yes rfl ?_
       refine G.skipK hK157 (fun _ _ h => h) ?_
       refine G.seqK fun K158 hK159 => ?_
       refine G.block ?_
       refine G.sr fun K160 hK161 => ?_
       refine GL.r 4 4 [(0, pt q 0), (19, li 3), (20, vw d), (182, .agg #[vw a, vw b, vw c_, vw d, vw e, vw f, vw g, vw h]), (183, li 3)] ?_
       refine GL.q hK161 ?_
       refine G.tail 9 (by kernel_rfl) (by kernel_rfl) ?_
       have H162 := H153.drew
       generalize ({ w151 with drawn := w151.drawn + 1 } : World) = w163 at H162 ⊢
       refine GS.r 4 4 [(0, pt q 0), (20, vw d), (182, .agg #[vw a, vw b, vw c_, vw d, vw e, vw f, vw g, vw h]), (183, li 3), (187, pt q 0), (188, li 3), (190, pt q 3)] ?_
       refine GS.s 5 (H162.ld (o := 3) (ty := 22) (v := vw s3) 0 rfl (by kernel_rfl) rfl) [(0, pt q 0), (20, vw d), (182, .agg #[vw a, vw b, vw c_, vw d, vw e, vw f, vw g, vw h]), (183, li 3), (187, pt q 0), (188, li 3), (191, vw s3)] ?_
       refine GS.r 9 4 [(0, pt q 0), (182, .agg #[vw a, vw b, vw c_, vw d, vw e, vw f, vw g, vw h]), (183, li 3), (193, lw (IntKind.u32.wrap ((s3 : Int) + (d : Int)))), (195, pt q 3)] ?_
       have e164 : (IntKind.u32.wrap ((s3 : Int) + (d : Int))) = (((s3 + d) % W32 : Nat) : Int) := w_add _ _
       rw [e164]
       clear e164
       refine GS.tail rfl ?_
       obtain ⟨w165, r166, H167⟩ := H162.st (P := Try.prog) (o := 3) (ty := 22) (v := vw ((s3 + d) % W32)) 0 rfl (by kernel_rfl) (by show 3 < 8; decide) rfl
       refine GL.u 10 r166 [(0, pt q 0), (182, .agg #[vw a, vw b, vw c_, vw d, vw e, vw f, vw g, vw h]), (183, li 3)] ?_
       refine GL.q hK159 ?_
       refine G.region ?_
       refine GL.r 2 2 [(0, pt q 0), (182, .agg #[vw a, vw b, vw c_, vw d, vw e, vw f, vw g, vw h]), (183, li 4)] ?_
       refine GL.round rfl ?_
       refine G.sr fun K168 hK169 => ?_
       refine GL.r 1 1 [(0, pt q 0), (182, .agg #[vw a, vw b, vw c_, vw d, vw e, vw f, vw g, vw h]), (183, li 4), (184, .bool true)] ?_
       refine GL.q hK169 ?_
       refine G.seqK fun K170 hK171 => ?_
       refine G.yes rfl ?_
       refine G.skipK hK171 (fun _ _ h => h) ?_
       refine G.seqK fun K172 hK173 => ?_
       refine G.block ?_
       refine G.sr fun K174 hK175 => ?_
       refine GL.r 4 4 [(0, pt q 0), (19, li 4), (20, vw e), (182, .agg #[vw a, vw b, vw c_, vw d, vw e, vw f, vw g, vw h]), (183, li 4)] ?_
       refine GL.q hK175 ?_
       refine G.tail 9 (by kernel_rfl) (by kernel_rfl) ?_
       have H176 := H167.drew
       generalize ({ w165 with drawn := w165.drawn + 1 } : World) = w177 at H176 ⊢
       refine GS.r 4 4 [(0, pt q 0), (20, vw e), (182, .agg #[vw a, vw b, vw c_, vw d, vw e, vw f, vw g, vw h]), (183, li 4), (187, pt q 0), (188, li 4), (190, pt q 4)] ?_
       refine GS.s 5 (H176.ld (o := 4) (ty := 22) (v := vw s4) 0 rfl (by kernel_rfl) rfl) [(0, pt q 0), (20, vw e), (182, .agg #[vw a, vw b, vw c_, vw d, vw e, vw f, vw g, vw h]), (183, li 4), (187, pt q 0), (188, li 4), (191, vw s4)] ?_
       refine GS.r 9 4 [(0, pt q 0), (182, .agg #[vw a, vw b, vw c_, vw d, vw e, vw f, vw g, vw h]), (183, li 4), (193, lw (IntKind.u32.wrap ((s4 : Int) + (e : Int)))), (195, pt q 4)] ?_
       have e178 : (IntKind.u32.wrap ((s4 : Int) + (e : Int))) = (((s4 + e) % W32 : Nat) : Int) := w_add _ _
       rw [e178]
       clear e178
       refine GS.tail rfl ?_
       obtain ⟨w179, r180, H181⟩ := H176.st (P := Try.prog) (o := 4) (ty := 22) (v := vw ((s4 + e) % W32)) 0 rfl (by kernel_rfl) (by show 4 < 8; decide) rfl
       refine GL.u 10 r180 [(0, pt q 0), (182, .agg #[vw a, vw b, vw c_, vw d, vw e, vw f, vw g, vw h]), (183, li 4)] ?_
       refine GL.q hK173 ?_
       refine G.region ?_
       refine GL.r 2 2 [(0, pt q 0), (182, .agg #[vw a, vw b, vw c_, vw d, vw e, vw f, vw g, vw h]), (183, li 5)] ?_
       refine GL.round rfl ?_
       refine G.sr fun K182 hK183 => ?_
       refine GL.r 1 1 [(0, pt q 0), (182, .agg #[vw a, vw b, vw c_, vw d, vw e, vw f, vw g, vw h]), (183, li 5), (184, .bool true)] ?_
       refine GL.q hK183 ?_
       refine G.seqK fun K184 hK185 => ?_
       refine G.yes rfl ?_
       refine G.skipK hK185 (fun _ _ h => h) ?_
       refine G.seqK fun K186 hK187 => ?_
       refine G.block ?_
       refine G.sr fun K188 hK189 => ?_
       refine GL.r 4 4 [(0, pt q 0), (19, li 5), (20, vw f), (182, .agg #[vw a, vw b, vw c_, vw d, vw e, vw f, vw g, vw h]), (183, li 5)] ?_
       refine GL.q hK189 ?_
       refine G.tail 9 (by kernel_rfl) (by kernel_rfl) ?_
       have H190 := H181.drew
       generalize ({ w179 with drawn := w179.drawn + 1 } : World) = w191 at H190 ⊢
       refine GS.r 4 4 [(0, pt q 0), (20, vw f), (182, .agg #[vw a, vw b, vw c_, vw d, vw e, vw f, vw g, vw h]), (183, li 5), (187, pt q 0), (188, li 5), (190, pt q 5)] ?_
       refine GS.s 5 (H190.ld (o := 5) (ty := 22) (v := vw s5) 0 rfl (by kernel_rfl) rfl) [(0, pt q 0), (20, vw f), (182, .agg #[vw a, vw b, vw c_, vw d, vw e, vw f, vw g, vw h]), (183, li 5), (187, pt q 0), (188, li 5), (191, vw s5)] ?_
       refine GS.r 9 4 [(0, pt q 0), (182, .agg #[vw a, vw b, vw c_, vw d, vw e, vw f, vw g, vw h]), (183, li 5), (193, lw (IntKind.u32.wrap ((s5 : Int) + (f : Int)))), (195, pt q 5)] ?_
       have e192 : (IntKind.u32.wrap ((s5 : Int) + (f : Int))) = (((s5 + f) % W32 : Nat) : Int) := w_add _ _
       rw [e192]
       clear e192
       refine GS.tail rfl ?_
       obtain ⟨w193, r194, H195⟩ := H190.st (P := Try.prog) (o := 5) (ty := 22) (v := vw ((s5 + f) % W32)) 0 rfl (by kernel_rfl) (by show 5 < 8; decide) rfl
       refine GL.u 10 r194 [(0, pt q 0), (182, .agg #[vw a, vw b, vw c_, vw d, vw e, vw f, vw g, vw h]), (183, li 5)] ?_
       refine GL.q hK187 ?_
       refine G.region ?_
       refine GL.r 2 2 [(0, pt q 0), (182, .agg #[vw a, vw b, vw c_, vw d, vw e, vw f, vw g, vw h]), (183, li 6)] ?_
       refine GL.round rfl ?_
       refine G.sr fun K196 hK197 => ?_
       refine GL.r 1 1 [(0, pt q 0), (182, .agg #[vw a, vw b, vw c_, vw d, vw e, vw f, vw g, vw h]), (183, li 6), (184, .bool true)] ?_
       refine GL.q hK197 ?_
       refine G.seqK fun K198 hK199 => ?_
       refine G.yes rfl ?_
       refine G.skipK hK199 (fun _ _ h => h) ?_
       refine G.seqK fun K200 hK201 => ?_
       refine G.block ?_
       refine G.sr fun K202 hK203 => ?_
       refine GL.r 4 4 [(0, pt q 0), (19, li 6), (20, vw g), (182, .agg #[vw a, vw b, vw c_, vw d, vw e, vw f, vw g, vw h]), (183, li 6)] ?_
       refine GL.q hK203 ?_
       refine G.tail 9 (by kernel_rfl) (by kernel_rfl) ?_
       have H204 := H195.drew
       generalize ({ w193 with drawn := w193.drawn + 1 } : World) = w205 at H204 ⊢
       refine GS.r 4 4 [(0, pt q 0), (20, vw g), (182, .agg #[vw a, vw b, vw c_, vw d, vw e, vw f, vw g, vw h]), (183, li 6), (187, pt q 0), (188, li 6), (190, pt q 6)] ?_
       refine GS.s 5 (H204.ld (o := 6) (ty := 22) (v := vw s6) 0 rfl (by kernel_rfl) rfl) [(0, pt q 0), (20, vw g), (182, .agg #[vw a, vw b, vw c_, vw d, vw e, vw f, vw g, vw h]), (183, li 6), (187, pt q 0), (188, li 6), (191, vw s6)] ?_
       refine GS.r 9 4 [(0, pt q 0), (182, .agg #[vw a, vw b, vw c_, vw d, vw e, vw f, vw g, vw h]), (183, li 6), (193, lw (IntKind.u32.wrap ((s6 : Int) + (g : Int)))), (195, pt q 6)] ?_
       have e206 : (IntKind.u32.wrap ((s6 : Int) + (g : Int))) = (((s6 + g) % W32 : Nat) : Int) := w_add _ _
       rw [e206]
       clear e206
       refine GS.tail rfl ?_
       obtain ⟨w207, r208, H209⟩ := H204.st (P := Try.prog) (o := 6) (ty := 22) (v := vw ((s6 + g) % W32)) 0 rfl (by kernel_rfl) (by show 6 < 8; decide) rfl
       refine GL.u 10 r208 [(0, pt q 0), (182, .agg #[vw a, vw b, vw c_, vw d, vw e, vw f, vw g, vw h]), (183, li 6)] ?_
       refine GL.q hK201 ?_
       refine G.region ?_
       refine GL.r 2 2 [(0, pt q 0), (182, .agg #[vw a, vw b, vw c_, vw d, vw e, vw f, vw g, vw h]), (183, li 7)] ?_
       refine GL.round rfl ?_
       refine G.sr fun K210 hK211 => ?_
       refine GL.r 1 1 [(0, pt q 0), (182, .agg #[vw a, vw b, vw c_, vw d, vw e, vw f, vw g, vw h]), (183, li 7), (184, .bool true)] ?_
       refine GL.q hK211 ?_
       refine G.seqK fun K212 hK213 => ?_
       refine G.yes rfl ?_
       refine G.skipK hK213 (fun _ _ h => h) ?_
       refine G.seqK fun K214 hK215 => ?_
       refine G.block ?_
       refine G.sr fun K216 hK217 => ?_
       refine GL.r 4 4 [(0, pt q 0), (19, li 7), (20, vw h), (182, .agg #[vw a, vw b, vw c_, vw d, vw e, vw f, vw g, vw h]), (183, li 7)] ?_
       refine GL.q hK217 ?_
       refine G.tail 9 (by kernel_rfl) (by kernel_rfl) ?_
       have H218 := H209.drew
       generalize ({ w207 with drawn := w207.drawn + 1 } : World) = w219 at H218 ⊢
       refine GS.r 4 4 [(0, pt q 0), (20, vw h), (182, .agg #[vw a, vw b, vw c_, vw d, vw e, vw f, vw g, vw h]), (183, li 7), (187, pt q 0), (188, li 7), (190, pt q 7)] ?_
       refine GS.s 5 (H218.ld (o := 7) (ty := 22) (v := vw s7) 0 rfl (by kernel_rfl) rfl) [(0, pt q 0), (20, vw h), (182, .agg #[vw a, vw b, vw c_, vw d, vw e, vw f, vw g, vw h]), (183, li 7), (187, pt q 0), (188, li 7), (191, vw s7)] ?_
       refine GS.r 9 4 [(0, pt q 0), (182, .agg #[vw a, vw b, vw c_, vw d, vw e, vw f, vw g, vw h]), (183, li 7), (193, lw (IntKind.u32.wrap ((s7 : Int) + (h : Int)))), (195, pt q 7)] ?_
       have e220 : (IntKind.u32.wrap ((s7 : Int) + (h : Int))) = (((s7 + h) % W32 : Nat) : Int) := w_add _ _
       rw [e220]
       clear e220
       refine GS.tail rfl ?_
       obtain ⟨w221, r222, H223⟩ := H218.st (P := Try.prog) (o := 7) (ty := 22) (v := vw ((s7 + h) % W32)) 0 rfl (by kernel_rfl) (by show 7 < 8; decide) rfl
       refine GL.u 10 r222 [(0, pt q 0), (182, .agg #[vw a, vw b, vw c_, vw d, vw e, vw f, vw g, vw h]), (183, li 7)] ?_
       refine GL.q hK215 ?_
       refine G.region ?_
       refine GL.r 2 2 [(0, pt q 0), (182, .agg #[vw a, vw b, vw c_, vw d, vw e, vw f, vw g, vw h]), (183, li 8)] ?_
       refine GL.round rfl ?_
       refine G.sr fun K224 hK225 => ?_
       refine GL.r 1 1 [(0, pt q 0), (182, .agg #[vw a, vw b, vw c_, vw d, vw e, vw f, vw g, vw h]), (183, li 8), (184, .bool false)] ?_
       refine GL.q hK225 ?_
       refine G.seqK fun K226 hK227 => ?_
       refine G.no rfl ?_
       refine fun F_ hF_ hM_ => wp_exit ?_
       refine hNor _ _ (bodyPost_0 rfl  ?_ F_ hF_ hM_)
       have H228 : Hp w S [.blk q (c8 ((s0 + a) % W32) ((s1 + b) % W32) ((s2 + c_) % W32) ((s3 + d) % W32) ((s4 + e) % W32) ((s5 + f) % W32) ((s6 + g) % W32) ((s7 + h) % W32)) 130] w221 := H223.sub (List.Sublist.cons_cons _ (List.Sublist.cons _ (List.Sublist.cons _ (List.Sublist.cons _ (List.Sublist.slnil)))))
       have HF := H228
       have e64 : i = 64 := by omega
       have e8 : blockF (s0, s1, s2, s3, s4, s5, s6, s7) p = add8 (s0, s1, s2, s3, s4, s5, s6, s7) (a, b, c_, d, e, f, g, h) := by rw [blockF, hv8, e64]
       rw [e8]
       exact ⟨rfl, HF⟩
     · skip
       have hb109f := of_decide_eq_true hb109
       refine G.yes rfl ?_
       refine G.skipK hK108 (fun _ _ h => h) ?_
       refine G.seqK fun K229 hK230 => ?_
       refine G.block ?_
       refine G.sr fun K231 hK232 => ?_
       refine GL.r 2 2 [(0, pt q 0), (4, pt p3 0), (12, pt p38 0), (13, pt p66 0), (14, vi i), (92, vi i)] ?_
       refine GL.q hK232 ?_
       refine G.sr fun K233 hK234 => ?_
       refine GL.r 1 1 [(0, pt q 0), (4, pt p3 0), (12, pt p38 0), (13, pt p66 0), (14, vi i), (92, vi i), (95, pt p66 4)] ?_
       refine GL.s 2 (H104.ld (o := 4) (ty := 22) (v := vw e) 3 rfl (by kernel_rfl) rfl) [(0, pt q 0), (4, pt p3 0), (12, pt p38 0), (13, pt p66 0), (14, vi i), (92, vi i), (96, vw e)] ?_
       refine GL.r 3 1 [(0, pt q 0), (4, pt p3 0), (12, pt p38 0), (13, pt p66 0), (14, vi i), (92, vi i), (96, vw e), (97, pt p66 5)] ?_
       refine GL.s 4 (H104.ld (o := 5) (ty := 22) (v := vw f) 3 rfl (by kernel_rfl) rfl) [(0, pt q 0), (4, pt p3 0), (12, pt p38 0), (13, pt p66 0), (14, vi i), (92, vi i), (96, vw e), (98, vw f)] ?_
       refine GL.r 6 2 [(0, pt q 0), (4, pt p3 0), (12, pt p38 0), (13, pt p66 0), (14, vi i), (92, vi i), (99, lw (Go.bits .and .u32 (e : Int) (f : Int))), (100, pt p66 4)] ?_
       have e235 : (Go.bits .and .u32 (e : Int) (f : Int)) = (((e &&& f) : Nat) : Int) := w_and he hf
       rw [e235]
       clear e235
       refine GL.s 7 (H104.ld (o := 4) (ty := 22) (v := vw e) 3 rfl (by kernel_rfl) rfl) [(0, pt q 0), (4, pt p3 0), (12, pt p38 0), (13, pt p66 0), (14, vi i), (92, vi i), (99, vw (e &&& f)), (101, vw e)] ?_
       refine GL.r 9 2 [(0, pt q 0), (4, pt p3 0), (12, pt p38 0), (13, pt p66 0), (14, vi i), (92, vi i), (99, vw (e &&& f)), (102, lw (Go.bits .xor .u32 4294967295 (e : Int))), (103, pt p66 6)] ?_
       have e236 : (Go.bits .xor .u32 4294967295 (e : Int)) = (((4294967295 ^^^ e) : Nat) : Int) := w_xor (by decide) he
       rw [e236]
       clear e236
       refine GL.s 10 (H104.ld (o := 6) (ty := 22) (v := vw g) 3 rfl (by kernel_rfl) rfl) [(0, pt q 0), (4, pt p3 0), (12, pt p38 0), (13, pt p66 0), (14, vi i), (92, vi i), (99, vw (e &&& f)), (102, vw (4294967295 ^^^ e)), (104, vw g)] ?_
       refine GL.r 13 3 [(0, pt q 0), (4, pt p3 0), (12, pt p38 0), (13, pt p66 0), (14, vi i), (15, lw (Go.bits .xor .u32 (((e &&& f) : Nat) : Int) (Go.bits .and .u32 (((4294967295 ^^^ e) : Nat) : Int) (g : Int)))), (92, vi i)] ?_
       have e237 : (Go.bits .and .u32 (((4294967295 ^^^ e) : Nat) : Int) (g : Int)) = ((((4294967295 ^^^ e) &&& g) : Nat) : Int) := w_and (xor_lt32 (by decide) he) hg
       have e238 : (Go.bits .xor .u32 (((e &&& f) : Nat) : Int) ((((4294967295 ^^^ e) &&& g) : Nat) : Int)) = (((chf e f g) : Nat) : Int) := w_xor (and_lt32 he) (and_lt32 (xor_lt32 (by decide) he))
       rw [e237, e238]
       clear e237 e238
       refine GL.q hK234 ?_
       refine G.sr fun K239 hK240 => ?_
       refine GL.r 1 1 [(0, pt q 0), (4, pt p3 0), (12, pt p38 0), (13, pt p66 0), (14, vi i), (15, vw (chf e f g)), (92, vi i), (107, pt p66 0)] ?_
       refine GL.s 2 (H104.ld (o := 0) (ty := 22) (v := vw a) 3 rfl (by kernel_rfl) rfl) [(0, pt q 0), (4, pt p3 0), (12, pt p38 0), (13, pt p66 0), (14, vi i), (15, vw (chf e f g)), (92, vi i), (108, vw a)] ?_
       refine GL.r 3 1 [(0, pt q 0), (4, pt p3 0), (12, pt p38 0), (13, pt p66 0), (14, vi i), (15, vw (chf e f g)), (92, vi i), (108, vw a), (109, pt p66 1)] ?_
       refine GL.s 4 (H104.ld (o := 1) (ty := 22) (v := vw b) 3 rfl (by kernel_rfl) rfl) [(0, pt q 0), (4, pt p3 0), (12, pt p38 0), (13, pt p66 0), (14, vi i), (15, vw (chf e f g)), (92, vi i), (108, vw a), (110, vw b)] ?_
       refine GL.r 6 2 [(0, pt q 0), (4, pt p3 0), (12, pt p38 0), (13, pt p66 0), (14, vi i), (15, vw (chf e f g)), (92, vi i), (111, lw (Go.bits .and .u32 (a : Int) (b : Int))), (112, pt p66 0)] ?_
       have e241 : (Go.bits .and .u32 (a : Int) (b : Int)) = (((a &&& b) : Nat) : Int) := w_and ha hb
       rw [e241]
       clear e241
       refine GL.s 7 (H104.ld (o := 0) (ty := 22) (v := vw a) 3 rfl (by kernel_rfl) rfl) [(0, pt q 0), (4, pt p3 0), (12, pt p38 0), (13, pt p66 0), (14, vi i), (15, vw (chf e f g)), (92, vi i), (111, vw (a &&& b)), (113, vw a)] ?_
       refine GL.r 8 1 [(0, pt q 0), (4, pt p3 0), (12, pt p38 0), (13, pt p66 0), (14, vi i), (15, vw (chf e f g)), (92, vi i), (111, vw (a &&& b)), (113, vw a), (114, pt p66 2)] ?_
       refine GL.s 9 (H104.ld (o := 2) (ty := 22) (v := vw c_) 3 rfl (by kernel_rfl) rfl) [(0, pt q 0), (4, pt p3 0), (12, pt p38 0), (13, pt p66 0), (14, vi i), (15, vw (chf e f g)), (92, vi i), (111, vw (a &&& b)), (113, vw a), (115, vw c_)] ?_
       refine GL.r 12 3 [(0, pt q 0), (4, pt p3 0), (12, pt p38 0), (13, pt p66 0), (14, vi i), (15, vw (chf e f g)), (92, vi i), (117, lw (Go.bits .xor .u32 (((a &&& b) : Nat) : Int) (Go.bits .and .u32 (a : Int) (c_ : Int)))), (118, pt p66 1)] ?_
       have e242 : (Go.bits .and .u32 (a : Int) (c_ : Int)) = (((a &&& c_) : Nat) : Int) := w_and ha hc
       have e243 : (Go.bits .xor .u32 (((a &&& b) : Nat) : Int) (((a &&& c_) : Nat) : Int)) = ((((a &&& b) ^^^ (a &&& c_)) : Nat) : Int) := w_xor (and_lt32 ha) (and_lt32 ha)
       rw [e242, e243]
       clear e242 e243
       refine GL.s 13 (H104.ld (o := 1) (ty := 22) (v := vw b) 3 rfl (by kernel_rfl) rfl) [(0, pt q 0), (4, pt p3 0), (12, pt p38 0), (13, pt p66 0), (14, vi i), (15, vw (chf e f g)), (92, vi i), (117, vw ((a &&& b) ^^^ (a &&& c_))), (119, vw b)] ?_
       refine GL.r 14 1 [(0, pt q 0), (4, pt p3 0), (12, pt p38 0), (13, pt p66 0), (14, vi i), (15, vw (chf e f g)), (92, vi i), (117, vw ((a &&& b) ^^^ (a &&& c_))), (119, vw b), (120, pt p66 2)] ?_
       refine GL.s 15 (H104.ld (o := 2) (ty := 22) (v := vw c_) 3 rfl (by kernel_rfl) rfl) [(0, pt q 0), (4, pt p3 0), (12, pt p38 0), (13, pt p66 0), (14, vi i), (15, vw (chf e f g)), (92, vi i), (117, vw ((a &&& b) ^^^ (a &&& c_))), (119, vw b), (121, vw c_)] ?_
       refine GL.r 18 3 [(0, pt q 0), (4, pt p3 0), (12, pt p38 0), (13, pt p66 0), (14, vi i), (15, vw (chf e f g)), (16, lw (Go.bits .xor .u32 ((((a &&& b) ^^^ (a &&& c_)) : Nat) : Int) (Go.bits .and .u32 (b : Int) (c_ : Int)))), (92, vi i)] ?_
       have e244 : (Go.bits .and .u32 (b : Int) (c_ : Int)) = (((b &&& c_) : Nat) : Int) := w_and hb hc
       have e245 : (Go.bits .xor .u32 ((((a &&& b) ^^^ (a &&& c_)) : Nat) : Int) (((b &&& c_) : Nat) : Int)) = (((majf a b c_) : Nat) : Int) := w_xor (xor_lt32 (and_lt32 ha) (and_lt32 ha)) (and_lt32 hb)
       rw [e244, e245]
       clear e244 e245
       refine GL.q hK240 ?_
       refine G.seqK fun K246 hK247 => ?_
       refine G.heldP (Hp w S [.blk q (c8 s0 s1 s2 s3 s4 s5 s6 s7) 130, .blk p3 (u32s (wsP p 64)) 119, .blk p38 (u32s KT) 119, .blk p66 (c8 a b c_ d e f g h) 130]) (by kernel_rfl) (by kernel_rfl) (fun c_ a_ d_ v_ w_ h_ => hPan c_ a_ d_ v_ w_ h_) ?_
       have H248 := H104.drew
       generalize ({ w102 with drawn := w102.drawn + 1 } : World) = w249 at H248 ⊢
       have hS250 : Hp w S [.blk q (c8 s0 s1 s2 s3 s4 s5 s6 s7) 130, .blk p3 (u32s (wsP p 64)) 119, .blk p38 (u32s KT) 119, .blk p66 (c8 a b c_ d e f g h) 130] w249 := H248.sub (List.Sublist.cons_cons _ (List.Sublist.cons_cons _ (List.Sublist.cons_cons _ (List.Sublist.cons_cons _ (List.Sublist.slnil)))))
       refine GP.r [0] [(0, pt q 0), (4, pt p3 0), (12, pt p38 0), (13, pt p66 0), (14, vi i), (15, vw (chf e f g)), (16, vw (majf a b c_)), (92, vi i), (124, pt p66 7)] [0] hS250 ?_
       refine GP.s 1 (fun w_ H_ => H_.ld (o := 7) (ty := 22) (v := vw h) 3 rfl (by kernel_rfl) rfl) [(0, pt q 0), (4, pt p3 0), (12, pt p38 0), (13, pt p66 0), (14, vi i), (15, vw (chf e f g)), (16, vw (majf a b c_)), (92, vi i), (125, vw h)] hS250 ?_
       refine GP.r [2] [(0, pt q 0), (4, pt p3 0), (12, pt p38 0), (13, pt p66 0), (14, vi i), (15, vw (chf e f g)), (16, vw (majf a b c_)), (92, vi i), (125, vw h), (126, pt p66 4)] [0, 1, 2] hS250 ?_
       refine GP.s 3 (fun w_ H_ => H_.ld (o := 4) (ty := 22) (v := vw e) 3 rfl (by kernel_rfl) rfl) [(0, pt q 0), (4, pt p3 0), (12, pt p38 0), (13, pt p66 0), (14, vi i), (15, vw (chf e f g)), (16, vw (majf a b c_)), (92, vi i), (125, vw h), (127, vw e)] hS250 ?_
       refine GP.r [5] [(0, pt q 0), (4, pt p3 0), (12, pt p38 0), (13, pt p66 0), (14, vi i), (15, vw (chf e f g)), (16, vw (majf a b c_)), (92, vi i), (125, vw h), (127, vw e), (129, pt p66 4)] [0, 1, 2, 3, 5] hS250 ?_
       refine GP.s 6 (fun w_ H_ => H_.ld (o := 4) (ty := 22) (v := vw e) 3 rfl (by kernel_rfl) rfl) [(0, pt q 0), (4, pt p3 0), (12, pt p38 0), (13, pt p66 0), (14, vi i), (15, vw (chf e f g)), (16, vw (majf a b c_)), (92, vi i), (125, vw h), (127, vw e), (130, vw e)] hS250 ?_
       refine GP.r [9] [(0, pt q 0), (4, pt p3 0), (12, pt p38 0), (13, pt p66 0), (14, vi i), (15, vw (chf e f g)), (16, vw (majf a b c_)), (92, vi i), (125, vw h), (127, vw e), (130, vw e), (133, pt p66 4)] [0, 1, 2, 3, 5, 6, 9] hS250 ?_
       refine GP.s 10 (fun w_ H_ => H_.ld (o := 4) (ty := 22) (v := vw e) 3 rfl (by kernel_rfl) rfl) [(0, pt q 0), (4, pt p3 0), (12, pt p38 0), (13, pt p66 0), (14, vi i), (15, vw (chf e f g)), (16, vw (majf a b c_)), (92, vi i), (125, vw h), (127, vw e), (130, vw e), (134, vw e)] hS250 ?_
       refine GP.r [14, 16] [(0, pt q 0), (4, pt p3 0), (12, pt p38 0), (13, pt p66 0), (14, vi i), (16, vw (majf a b c_)), (92, vi i), (125, vw h), (127, vw e), (130, vw e), (134, vw e), (138, vw (chf e f g)), (140, vi i)] [0, 1, 2, 3, 5, 6, 9, 10, 14, 16] hS250 ?_
       refine GP.s 17 (fun w_ H_ => run_idxArr (P := Try.prog) (k := .i64) (t := 119) (len := 64) (sz := 1) (b := p38) (o := 0) (j := i) (by kernel_rfl) rfl (by omega)) [(0, pt q 0), (4, pt p3 0), (12, pt p38 0), (13, pt p66 0), (14, vi i), (16, vw (majf a b c_)), (92, vi i), (125, vw h), (127, vw e), (130, vw e), (134, vw e), (138, vw (chf e f g)), (141, pt p38 (0 + i * 1))] hS250 ?_
       refine GP.s 18 (fun w_ H_ => H_.ld (o := (0 + i * 1)) (ty := 22) (v := vw (KT.getD i 0)) 2 rfl (by kernel_rfl) (by rw [show (0 + i * 1) = i by omega]; exact u32s_at (getD_at (by rw [KT_length]; omega)))) [(0, pt q 0), (4, pt p3 0), (12, pt p38 0), (13, pt p66 0), (14, vi i), (16, vw (majf a b c_)), (92, vi i), (125, vw h), (127, vw e), (130, vw e), (134, vw e), (138, vw (chf e f g)), (142, vw (KT.getD i 0))] hS250 ?_
       refine GP.r [20] [(0, pt q 0), (4, pt p3 0), (12, pt p38 0), (13, pt p66 0), (16, vw (majf a b c_)), (92, vi i), (125, vw h), (127, vw e), (130, vw e), (134, vw e), (138, vw (chf e f g)), (142, vw (KT.getD i 0)), (144, vi i)] [0, 1, 2, 3, 5, 6, 9, 10, 14, 16, 17, 18, 20] hS250 ?_
       refine GP.s 21 (fun w_ H_ => run_idxArr (P := Try.prog) (k := .i64) (t := 119) (len := 64) (sz := 1) (b := p3) (o := 0) (j := i) (by kernel_rfl) rfl (by omega)) [(0, pt q 0), (4, pt p3 0), (12, pt p38 0), (13, pt p66 0), (16, vw (majf a b c_)), (92, vi i), (125, vw h), (127, vw e), (130, vw e), (134, vw e), (138, vw (chf e f g)), (142, vw (KT.getD i 0)), (145, pt p3 (0 + i * 1))] hS250 ?_
       refine GP.s 22 (fun w_ H_ => H_.ld (o := (0 + i * 1)) (ty := 22) (v := vw ((wsN p 64).getD i 0)) 1 rfl (by kernel_rfl) (by rw [show (0 + i * 1) = i by omega]; exact u32s_at (wsP_at (by omega) (by omega)))) [(0, pt q 0), (4, pt p3 0), (12, pt p38 0), (13, pt p66 0), (16, vw (majf a b c_)), (92, vi i), (125, vw h), (127, vw e), (130, vw e), (134, vw e), (138, vw (chf e f g)), (142, vw (KT.getD i 0)), (146, vw ((wsN p 64).getD i 0))] hS250 ?_
       refine GP.call 4 (Turn6_calls e he w249) (by kernel_rfl) (by kernel_rfl) (fun e_ w251 hR => ?_)
       obtain ⟨rfl, H253⟩ := hR
       have H252 : Hp w S [.blk q (c8 s0 s1 s2 s3 s4 s5 s6 s7) 130, .blk p3 (u32s (wsP p 64)) 119, .blk p38 (u32s KT) 119, .blk p66 (c8 a b c_ d e f g h) 130] w251 := H248.callNil H253
       have hS254 : Hp w S [.blk q (c8 s0 s1 s2 s3 s4 s5 s6 s7) 130, .blk p3 (u32s (wsP p 64)) 119, .blk p38 (u32s KT) 119, .blk p66 (c8 a b c_ d e f g h) 130] w251 := H252.sub (List.Sublist.cons_cons _ (List.Sublist.cons_cons _ (List.Sublist.cons_cons _ (List.Sublist.cons_cons _ (List.Sublist.slnil)))))
       refine ⟨_, rfl, hS254, [0, 4, 12, 13, 16, 92, 125, 128, 130, 134, 138, 142, 146], [(0, pt q 0), (4, pt p3 0), (12, pt p38 0), (13, pt p66 0), (16, vw (majf a b c_)), (92, vi i), (125, vw h), (128, vw (rt e 6)), (130, vw e), (134, vw e), (138, vw (chf e f g)), (142, vw (KT.getD i 0)), (146, vw ((wsN p 64).getD i 0))], by kernel_rfl, ?_⟩
       refine GP.call 7 (Turn11_calls e he w251) (by kernel_rfl) (by kernel_rfl) (fun e_ w255 hR => ?_)
       obtain ⟨rfl, H257⟩ := hR
       have H256 : Hp w S [.blk q (c8 s0 s1 s2 s3 s4 s5 s6 s7) 130, .blk p3 (u32s (wsP p 64)) 119, .blk p38 (u32s KT) 119, .blk p66 (c8 a b c_ d e f g h) 130] w255 := H252.callNil H257
       have hS258 : Hp w S [.blk q (c8 s0 s1 s2 s3 s4 s5 s6 s7) 130, .blk p3 (u32s (wsP p 64)) 119, .blk p38 (u32s KT) 119, .blk p66 (c8 a b c_ d e f g h) 130] w255 := H256.sub (List.Sublist.cons_cons _ (List.Sublist.cons_cons _ (List.Sublist.cons_cons _ (List.Sublist.cons_cons _ (List.Sublist.slnil)))))
       refine ⟨_, rfl, hS258, [0, 4, 12, 13, 16, 92, 125, 128, 131, 134, 138, 142, 146], [(0, pt q 0), (4, pt p3 0), (12, pt p38 0), (13, pt p66 0), (16, vw (majf a b c_)), (92, vi i), (125, vw h), (128, vw (rt e 6)), (131, vw (rt e 11)), (134, vw e), (138, vw (chf e f g)), (142, vw (KT.getD i 0)), (146, vw ((wsN p 64).getD i 0))], by kernel_rfl, ?_⟩
       refine GP.r [8] [(0, pt q 0), (4, pt p3 0), (12, pt p38 0), (13, pt p66 0), (16, vw (majf a b c_)), (92, vi i), (125, vw h), (132, lw (Go.bits .xor .u32 (((rt e 6) : Nat) : Int) (((rt e 11) : Nat) : Int))), (134, vw e), (138, vw (chf e f g)), (142, vw (KT.getD i 0)), (146, vw ((wsN p 64).getD i 0))] [0, 1, 2, 3, 5, 6, 9, 10, 14, 16, 17, 18, 20, 21, 22, 4, 7, 8] hS258 ?_
       have e259 : (Go.bits .xor .u32 (((rt e 6) : Nat) : Int) (((rt e 11) : Nat) : Int)) = ((((rt e 6) ^^^ (rt e 11)) : Nat) : Int) := w_xor (rt_lt he) (rt_lt he)
       refine GP.eq (M' := [(0, pt q 0), (4, pt p3 0), (12, pt p38 0), (13, pt p66 0), (16, vw (majf a b c_)), (92, vi i), (125, vw h), (132, vw ((rt e 6) ^^^ (rt e 11))), (134, vw e), (138, vw (chf e f g)), (142, vw (KT.getD i 0)), (146, vw ((wsN p 64).getD i 0))]) (by rw [e259]) ?_
       clear e259
       refine GP.call 11 (Turn25_calls e he w255) (by kernel_rfl) (by kernel_rfl) (fun e_ w260 hR => ?_)
       obtain ⟨rfl, H262⟩ := hR
       have H261 : Hp w S [.blk q (c8 s0 s1 s2 s3 s4 s5 s6 s7) 130, .blk p3 (u32s (wsP p 64)) 119, .blk p38 (u32s KT) 119, .blk p66 (c8 a b c_ d e f g h) 130] w260 := H256.callNil H262
       have hS263 : Hp w S [.blk q (c8 s0 s1 s2 s3 s4 s5 s6 s7) 130, .blk p3 (u32s (wsP p 64)) 119, .blk p38 (u32s KT) 119, .blk p66 (c8 a b c_ d e f g h) 130] w260 := H261.sub (List.Sublist.cons_cons _ (List.Sublist.cons_cons _ (List.Sublist.cons_cons _ (List.Sublist.cons_cons _ (List.Sublist.slnil)))))
       refine ⟨_, rfl, hS263, [0, 4, 12, 13, 16, 92, 125, 132, 135, 138, 142, 146], [(0, pt q 0), (4, pt p3 0), (12, pt p38 0), (13, pt p66 0), (16, vw (majf a b c_)), (92, vi i), (125, vw h), (132, vw ((rt e 6) ^^^ (rt e 11))), (135, vw (rt e 25)), (138, vw (chf e f g)), (142, vw (KT.getD i 0)), (146, vw ((wsN p 64).getD i 0))], by kernel_rfl, ?_⟩
       refine GP.r [12, 13, 15, 19, 23, 24] [(0, pt q 0), (4, pt p3 0), (12, pt p38 0), (13, pt p66 0), (16, vw (majf a b c_)), (17, lw (IntKind.u32.wrap ((IntKind.u32.wrap ((IntKind.u32.wrap ((IntKind.u32.wrap ((h : Int) + (Go.bits .xor .u32 ((((rt e 6) ^^^ (rt e 11)) : Nat) : Int) (((rt e 25) : Nat) : Int)))) + (((chf e f g) : Nat) : Int))) + (((KT.getD i 0) : Nat) : Int))) + ((((wsN p 64).getD i 0) : Nat) : Int)))), (92, vi i)] [0, 1, 2, 3, 5, 6, 9, 10, 14, 16, 17, 18, 20, 21, 22, 4, 7, 8, 11, 12, 13, 15, 19, 23, 24] hS263 ?_
       have e264 : (Go.bits .xor .u32 ((((rt e 6) ^^^ (rt e 11)) : Nat) : Int) (((rt e 25) : Nat) : Int)) = (((bsg1 e) : Nat) : Int) := w_xor (xor_lt32 (rt_lt he) (rt_lt he)) (rt_lt he)
       have e265 : (IntKind.u32.wrap ((h : Int) + (((bsg1 e) : Nat) : Int))) = (((h + (bsg1 e)) % W32 : Nat) : Int) := w_add _ _
       have e266 : (IntKind.u32.wrap ((((h + (bsg1 e)) % W32 : Nat) : Int) + (((chf e f g) : Nat) : Int))) = (((h + (bsg1 e) + (chf e f g)) % W32 : Nat) : Int) := w_addm _ _
       have e267 : (IntKind.u32.wrap ((((h + (bsg1 e) + (chf e f g)) % W32 : Nat) : Int) + (((KT.getD i 0) : Nat) : Int))) = (((h + (bsg1 e) + (chf e f g) + (KT.getD i 0)) % W32 : Nat) : Int) := w_addm _ _
       have e268 : (IntKind.u32.wrap ((((h + (bsg1 e) + (chf e f g) + (KT.getD i 0)) % W32 : Nat) : Int) + ((((wsN p 64).getD i 0) : Nat) : Int))) = (((h + (bsg1 e) + (chf e f g) + (KT.getD i 0) + ((wsN p 64).getD i 0)) % W32 : Nat) : Int) := w_addm _ _
       refine GP.eq (M' := [(0, pt q 0), (4, pt p3 0), (12, pt p38 0), (13, pt p66 0), (16, vw (majf a b c_)), (17, vw ((h + (bsg1 e) + (chf e f g) + (KT.getD i 0) + ((wsN p 64).getD i 0)) % W32)), (92, vi i)]) (by rw [e264, e265, e266, e267, e268]) ?_
       clear e264 e265 e266 e267 e268
       refine GP.k (by kernel_rfl) hK247 (fun _ _ h => h) ?_
       refine G.seqK fun K269 hK270 => ?_
       refine G.heldP (Hp w S [.blk q (c8 s0 s1 s2 s3 s4 s5 s6 s7) 130, .blk p3 (u32s (wsP p 64)) 119, .blk p38 (u32s KT) 119, .blk p66 (c8 a b c_ d e f g h) 130]) (by kernel_rfl) (by kernel_rfl) (fun c_ a_ d_ v_ w_ h_ => hPan c_ a_ d_ v_ w_ h_) ?_
       have H271 := H261.drew
       generalize ({ w260 with drawn := w260.drawn + 1 } : World) = w272 at H271 ⊢
       have hS273 : Hp w S [.blk q (c8 s0 s1 s2 s3 s4 s5 s6 s7) 130, .blk p3 (u32s (wsP p 64)) 119, .blk p38 (u32s KT) 119, .blk p66 (c8 a b c_ d e f g h) 130] w272 := H271.sub (List.Sublist.cons_cons _ (List.Sublist.cons_cons _ (List.Sublist.cons_cons _ (List.Sublist.cons_cons _ (List.Sublist.slnil)))))
       refine GP.r [0] [(0, pt q 0), (4, pt p3 0), (12, pt p38 0), (13, pt p66 0), (16, vw (majf a b c_)), (17, vw ((h + (bsg1 e) + (chf e f g) + (KT.getD i 0) + ((wsN p 64).getD i 0)) % W32)), (92, vi i), (148, pt p66 0)] [0] hS273 ?_
       refine GP.s 1 (fun w_ H_ => H_.ld (o := 0) (ty := 22) (v := vw a) 3 rfl (by kernel_rfl) rfl) [(0, pt q 0), (4, pt p3 0), (12, pt p38 0), (13, pt p66 0), (16, vw (majf a b c_)), (17, vw ((h + (bsg1 e) + (chf e f g) + (KT.getD i 0) + ((wsN p 64).getD i 0)) % W32)), (92, vi i), (149, vw a)] hS273 ?_
       refine GP.r [3] [(0, pt q 0), (4, pt p3 0), (12, pt p38 0), (13, pt p66 0), (16, vw (majf a b c_)), (17, vw ((h + (bsg1 e) + (chf e f g) + (KT.getD i 0) + ((wsN p 64).getD i 0)) % W32)), (92, vi i), (149, vw a), (151, pt p66 0)] [0, 1, 3] hS273 ?_
       refine GP.s 4 (fun w_ H_ => H_.ld (o := 0) (ty := 22) (v := vw a) 3 rfl (by kernel_rfl) rfl) [(0, pt q 0), (4, pt p3 0), (12, pt p38 0), (13, pt p66 0), (16, vw (majf a b c_)), (17, vw ((h + (bsg1 e) + (chf e f g) + (KT.getD i 0) + ((wsN p 64).getD i 0)) % W32)), (92, vi i), (149, vw a), (152, vw a)] hS273 ?_
       refine GP.r [7] [(0, pt q 0), (4, pt p3 0), (12, pt p38 0), (13, pt p66 0), (16, vw (majf a b c_)), (17, vw ((h + (bsg1 e) + (chf e f g) + (KT.getD i 0) + ((wsN p 64).getD i 0)) % W32)), (92, vi i), (149, vw a), (152, vw a), (155, pt p66 0)] [0, 1, 3, 4, 7] hS273 ?_
       refine GP.s 8 (fun w_ H_ => H_.ld (o := 0) (ty := 22) (v := vw a) 3 rfl (by kernel_rfl) rfl) [(0, pt q 0), (4, pt p3 0), (12, pt p38 0), (13, pt p66 0), (16, vw (majf a b c_)), (17, vw ((h + (bsg1 e) + (chf e f g) + (KT.getD i 0) + ((wsN p 64).getD i 0)) % W32)), (92, vi i), (149, vw a), (152, vw a), (156, vw a)] hS273 ?_
       refine GP.r [11] [(0, pt q 0), (4, pt p3 0), (12, pt p38 0), (13, pt p66 0), (17, vw ((h + (bsg1 e) + (chf e f g) + (KT.getD i 0) + ((wsN p 64).getD i 0)) % W32)), (92, vi i), (149, vw a), (152, vw a), (156, vw a), (159, vw (majf a b c_))] [0, 1, 3, 4, 7, 8, 11] hS273 ?_
       refine GP.call 2 (Turn2_calls a ha w272) (by kernel_rfl) (by kernel_rfl) (fun e_ w274 hR => ?_)
       obtain ⟨rfl, H276⟩ := hR
       have H275 : Hp w S [.blk q (c8 s0 s1 s2 s3 s4 s5 s6 s7) 130, .blk p3 (u32s (wsP p 64)) 119, .blk p38 (u32s KT) 119, .blk p66 (c8 a b c_ d e f g h) 130] w274 := H271.callNil H276
       have hS277 : Hp w S [.blk q (c8 s0 s1 s2 s3 s4 s5 s6 s7) 130, .blk p3 (u32s (wsP p 64)) 119, .blk p38 (u32s KT) 119, .blk p66 (c8 a b c_ d e f g h) 130] w274 := H275.sub (List.Sublist.cons_cons _ (List.Sublist.cons_cons _ (List.Sublist.cons_cons _ (List.Sublist.cons_cons _ (List.Sublist.slnil)))))
       refine ⟨_, rfl, hS277, [0, 4, 12, 13, 17, 92, 150, 152, 156, 159], [(0, pt q 0), (4, pt p3 0), (12, pt p38 0), (13, pt p66 0), (17, vw ((h + (bsg1 e) + (chf e f g) + (KT.getD i 0) + ((wsN p 64).getD i 0)) % W32)), (92, vi i), (150, vw (rt a 2)), (152, vw a), (156, vw a), (159, vw (majf a b c_))], by kernel_rfl, ?_⟩
       refine GP.call 5 (Turn13_calls a ha w274) (by kernel_rfl) (by kernel_rfl) (fun e_ w278 hR => ?_)
       obtain ⟨rfl, H280⟩ := hR
       have H279 : Hp w S [.blk q (c8 s0 s1 s2 s3 s4 s5 s6 s7) 130, .blk p3 (u32s (wsP p 64)) 119, .blk p38 (u32s KT) 119, .blk p66 (c8 a b c_ d e f g h) 130] w278 := H275.callNil H280
       have hS281 : Hp w S [.blk q (c8 s0 s1 s2 s3 s4 s5 s6 s7) 130, .blk p3 (u32s (wsP p 64)) 119, .blk p38 (u32s KT) 119, .blk p66 (c8 a b c_ d e f g h) 130] w278 := H279.sub (List.Sublist.cons_cons _ (List.Sublist.cons_cons _ (List.Sublist.cons_cons _ (List.Sublist.cons_cons _ (List.Sublist.slnil)))))
       refine ⟨_, rfl, hS281, [0, 4, 12, 13, 17, 92, 150, 153, 156, 159], [(0, pt q 0), (4, pt p3 0), (12, pt p38 0), (13, pt p66 0), (17, vw ((h + (bsg1 e) + (chf e f g) + (KT.getD i 0) + ((wsN p 64).getD i 0)) % W32)), (92, vi i), (150, vw (rt a 2)), (153, vw (rt a 13)), (156, vw a), (159, vw (majf a b c_))], by kernel_rfl, ?_⟩
       refine GP.r [6] [(0, pt q 0), (4, pt p3 0), (12, pt p38 0), (13, pt p66 0), (17, vw ((h + (bsg1 e) + (chf e f g) + (KT.getD i 0) + ((wsN p 64).getD i 0)) % W32)), (92, vi i), (154, lw (Go.bits .xor .u32 (((rt a 2) : Nat) : Int) (((rt a 13) : Nat) : Int))), (156, vw a), (159, vw (majf a b c_))] [0, 1, 3, 4, 7, 8, 11, 2, 5, 6] hS281 ?_
       have e282 : (Go.bits .xor .u32 (((rt a 2) : Nat) : Int) (((rt a 13) : Nat) : Int)) = ((((rt a 2) ^^^ (rt a 13)) : Nat) : Int) := w_xor (rt_lt ha) (rt_lt ha)
       refine GP.eq (M' := [(0, pt q 0), (4, pt p3 0), (12, pt p38 0), (13, pt p66 0), (17, vw ((h + (bsg1 e) + (chf e f g) + (KT.getD i 0) + ((wsN p 64).getD i 0)) % W32)), (92, vi i), (154, vw ((rt a 2) ^^^ (rt a 13))), (156, vw a), (159, vw (majf a b c_))]) (by rw [e282]) ?_
       clear e282
       refine GP.call 9 (Turn22_calls a ha w278) (by kernel_rfl) (by kernel_rfl) (fun e_ w283 hR => ?_)
       obtain ⟨rfl, H285⟩ := hR
       have H284 : Hp w S [.blk q (c8 s0 s1 s2 s3 s4 s5 s6 s7) 130, .blk p3 (u32s (wsP p 64)) 119, .blk p38 (u32s KT) 119, .blk p66 (c8 a b c_ d e f g h) 130] w283 := H279.callNil H285
       have hS286 : Hp w S [.blk q (c8 s0 s1 s2 s3 s4 s5 s6 s7) 130, .blk p3 (u32s (wsP p 64)) 119, .blk p38 (u32s KT) 119, .blk p66 (c8 a b c_ d e f g h) 130] w283 := H284.sub (List.Sublist.cons_cons _ (List.Sublist.cons_cons _ (List.Sublist.cons_cons _ (List.Sublist.cons_cons _ (List.Sublist.slnil)))))
       refine ⟨_, rfl, hS286, [0, 4, 12, 13, 17, 92, 154, 157, 159], [(0, pt q 0), (4, pt p3 0), (12, pt p38 0), (13, pt p66 0), (17, vw ((h + (bsg1 e) + (chf e f g) + (KT.getD i 0) + ((wsN p 64).getD i 0)) % W32)), (92, vi i), (154, vw ((rt a 2) ^^^ (rt a 13))), (157, vw (rt a 22)), (159, vw (majf a b c_))], by kernel_rfl, ?_⟩
       refine GP.r [10, 12, 13] [(0, pt q 0), (4, pt p3 0), (12, pt p38 0), (13, pt p66 0), (17, vw ((h + (bsg1 e) + (chf e f g) + (KT.getD i 0) + ((wsN p 64).getD i 0)) % W32)), (18, lw (IntKind.u32.wrap ((Go.bits .xor .u32 ((((rt a 2) ^^^ (rt a 13)) : Nat) : Int) (((rt a 22) : Nat) : Int)) + (((majf a b c_) : Nat) : Int)))), (92, vi i)] [0, 1, 3, 4, 7, 8, 11, 2, 5, 6, 9, 10, 12, 13] hS286 ?_
       have e287 : (Go.bits .xor .u32 ((((rt a 2) ^^^ (rt a 13)) : Nat) : Int) (((rt a 22) : Nat) : Int)) = (((bsg0 a) : Nat) : Int) := w_xor (xor_lt32 (rt_lt ha) (rt_lt ha)) (rt_lt ha)
       have e288 : (IntKind.u32.wrap ((((bsg0 a) : Nat) : Int) + (((majf a b c_) : Nat) : Int))) = ((((bsg0 a) + (majf a b c_)) % W32 : Nat) : Int) := w_add _ _
       refine GP.eq (M' := [(0, pt q 0), (4, pt p3 0), (12, pt p38 0), (13, pt p66 0), (17, vw ((h + (bsg1 e) + (chf e f g) + (KT.getD i 0) + ((wsN p 64).getD i 0)) % W32)), (18, vw (((bsg0 a) + (majf a b c_)) % W32)), (92, vi i)]) (by rw [e287, e288]) ?_
       clear e287 e288
       refine GP.k (by kernel_rfl) hK270 (fun _ _ h => h) ?_
       refine G.region ?_
       refine GL.r 4 4 [(0, pt q 0), (4, pt p3 0), (12, pt p38 0), (13, pt p66 0), (17, vw ((h + (bsg1 e) + (chf e f g) + (KT.getD i 0) + ((wsN p 64).getD i 0)) % W32)), (92, vi i), (163, lw (IntKind.u32.wrap ((((h + (bsg1 e) + (chf e f g) + (KT.getD i 0) + ((wsN p 64).getD i 0)) % W32 : Nat) : Int) + ((((bsg0 a) + (majf a b c_)) % W32 : Nat) : Int)))), (164, pt p66 0)] ?_
       have e289 : (IntKind.u32.wrap ((((h + (bsg1 e) + (chf e f g) + (KT.getD i 0) + ((wsN p 64).getD i 0)) % W32 : Nat) : Int) + ((((bsg0 a) + (majf a b c_)) % W32 : Nat) : Int))) = (((((h + (bsg1 e) + (chf e f g) + (KT.getD i 0) + ((wsN p 64).getD i 0)) % W32) + (((bsg0 a) + (majf a b c_)) % W32)) % W32 : Nat) : Int) := w_add _ _
       rw [e289]
       clear e289
       refine GL.s 5 (H284.ld (o := 0) (ty := 22) (v := vw a) 3 rfl (by kernel_rfl) rfl) [(0, pt q 0), (4, pt p3 0), (12, pt p38 0), (13, pt p66 0), (17, vw ((h + (bsg1 e) + (chf e f g) + (KT.getD i 0) + ((wsN p 64).getD i 0)) % W32)), (92, vi i), (163, vw ((((h + (bsg1 e) + (chf e f g) + (KT.getD i 0) + ((wsN p 64).getD i 0)) % W32) + (((bsg0 a) + (majf a b c_)) % W32)) % W32)), (165, vw a)] ?_
       refine GL.r 6 1 [(0, pt q 0), (4, pt p3 0), (12, pt p38 0), (13, pt p66 0), (17, vw ((h + (bsg1 e) + (chf e f g) + (KT.getD i 0) + ((wsN p 64).getD i 0)) % W32)), (92, vi i), (163, vw ((((h + (bsg1 e) + (chf e f g) + (KT.getD i 0) + ((wsN p 64).getD i 0)) % W32) + (((bsg0 a) + (majf a b c_)) % W32)) % W32)), (165, vw a), (166, pt p66 1)] ?_
       refine GL.s 7 (H284.ld (o := 1) (ty := 22) (v := vw b) 3 rfl (by kernel_rfl) rfl) [(0, pt q 0), (4, pt p3 0), (12, pt p38 0), (13, pt p66 0), (17, vw ((h + (bsg1 e) + (chf e f g) + (KT.getD i 0) + ((wsN p 64).getD i 0)) % W32)), (92, vi i), (163, vw ((((h + (bsg1 e) + (chf e f g) + (KT.getD i 0) + ((wsN p 64).getD i 0)) % W32) + (((bsg0 a) + (majf a b c_)) % W32)) % W32)), (165, vw a), (167, vw b)] ?_
       refine GL.r 8 1 [(0, pt q 0), (4, pt p3 0), (12, pt p38 0), (13, pt p66 0), (17, vw ((h + (bsg1 e) + (chf e f g) + (KT.getD i 0) + ((wsN p 64).getD i 0)) % W32)), (92, vi i), (163, vw ((((h + (bsg1 e) + (chf e f g) + (KT.getD i 0) + ((wsN p 64).getD i 0)) % W32) + (((bsg0 a) + (majf a b c_)) % W32)) % W32)), (165, vw a), (167, vw b), (168, pt p66 2)] ?_
       refine GL.s 9 (H284.ld (o := 2) (ty := 22) (v := vw c_) 3 rfl (by kernel_rfl) rfl) [(0, pt q 0), (4, pt p3 0), (12, pt p38 0), (13, pt p66 0), (17, vw ((h + (bsg1 e) + (chf e f g) + (KT.getD i 0) + ((wsN p 64).getD i 0)) % W32)), (92, vi i), (163, vw ((((h + (bsg1 e) + (chf e f g) + (KT.getD i 0) + ((wsN p 64).getD i 0)) % W32) + (((bsg0 a) + (majf a b c_)) % W32)) % W32)), (165, vw a), (167, vw b), (169, vw c_)] ?_
       refine GL.r 10 1 [(0, pt q 0), (4, pt p3 0), (12, pt p38 0), (13, pt p66 0), (17, vw ((h + (bsg1 e) + (chf e f g) + (KT.getD i 0) + ((wsN p 64).getD i 0)) % W32)), (92, vi i), (163, vw ((((h + (bsg1 e) + (chf e f g) + (KT.getD i 0) + ((wsN p 64).getD i 0)) % W32) + (((bsg0 a) + (majf a b c_)) % W32)) % W32)), (165, vw a), (167, vw b), (169, vw c_), (170, pt p66 3)] ?_
       refine GL.s 11 (H284.ld (o := 3) (ty := 22) (v := vw d) 3 rfl (by kernel_rfl) rfl) [(0, pt q 0), (4, pt p3 0), (12, pt p38 0), (13, pt p66 0), (17, vw ((h + (bsg1 e) + (chf e f g) + (KT.getD i 0) + ((wsN p 64).getD i 0)) % W32)), (92, vi i), (163, vw ((((h + (bsg1 e) + (chf e f g) + (KT.getD i 0) + ((wsN p 64).getD i 0)) % W32) + (((bsg0 a) + (majf a b c_)) % W32)) % W32)), (165, vw a), (167, vw b), (169, vw c_), (171, vw d)] ?_
       refine GL.r 14 3 [(0, pt q 0), (4, pt p3 0), (12, pt p38 0), (13, pt p66 0), (92, vi i), (163, vw ((((h + (bsg1 e) + (chf e f g) + (KT.getD i 0) + ((wsN p 64).getD i 0)) % W32) + (((bsg0 a) + (majf a b c_)) % W32)) % W32)), (165, vw a), (167, vw b), (169, vw c_), (173, lw (IntKind.u32.wrap ((d : Int) + (((h + (bsg1 e) + (chf e f g) + (KT.getD i 0) + ((wsN p 64).getD i 0)) % W32 : Nat) : Int)))), (174, pt p66 4)] ?_
       have e290 : (IntKind.u32.wrap ((d : Int) + (((h + (bsg1 e) + (chf e f g) + (KT.getD i 0) + ((wsN p 64).getD i 0)) % W32 : Nat) : Int))) = (((d + ((h + (bsg1 e) + (chf e f g) + (KT.getD i 0) + ((wsN p 64).getD i 0)) % W32)) % W32 : Nat) : Int) := w_add _ _
       rw [e290]
       clear e290
       refine GL.s 15 (H284.ld (o := 4) (ty := 22) (v := vw e) 3 rfl (by kernel_rfl) rfl) [(0, pt q 0), (4, pt p3 0), (12, pt p38 0), (13, pt p66 0), (92, vi i), (163, vw ((((h + (bsg1 e) + (chf e f g) + (KT.getD i 0) + ((wsN p 64).getD i 0)) % W32) + (((bsg0 a) + (majf a b c_)) % W32)) % W32)), (165, vw a), (167, vw b), (169, vw c_), (173, vw ((d + ((h + (bsg1 e) + (chf e f g) + (KT.getD i 0) + ((wsN p 64).getD i 0)) % W32)) % W32)), (175, vw e)] ?_
       refine GL.r 16 1 [(0, pt q 0), (4, pt p3 0), (12, pt p38 0), (13, pt p66 0), (92, vi i), (163, vw ((((h + (bsg1 e) + (chf e f g) + (KT.getD i 0) + ((wsN p 64).getD i 0)) % W32) + (((bsg0 a) + (majf a b c_)) % W32)) % W32)), (165, vw a), (167, vw b), (169, vw c_), (173, vw ((d + ((h + (bsg1 e) + (chf e f g) + (KT.getD i 0) + ((wsN p 64).getD i 0)) % W32)) % W32)), (175, vw e), (176, pt p66 5)] ?_
       refine GL.s 17 (H284.ld (o := 5) (ty := 22) (v := vw f) 3 rfl (by kernel_rfl) rfl) [(0, pt q 0), (4, pt p3 0), (12, pt p38 0), (13, pt p66 0), (92, vi i), (163, vw ((((h + (bsg1 e) + (chf e f g) + (KT.getD i 0) + ((wsN p 64).getD i 0)) % W32) + (((bsg0 a) + (majf a b c_)) % W32)) % W32)), (165, vw a), (167, vw b), (169, vw c_), (173, vw ((d + ((h + (bsg1 e) + (chf e f g) + (KT.getD i 0) + ((wsN p 64).getD i 0)) % W32)) % W32)), (175, vw e), (177, vw f)] ?_
       refine GL.r 18 1 [(0, pt q 0), (4, pt p3 0), (12, pt p38 0), (13, pt p66 0), (92, vi i), (163, vw ((((h + (bsg1 e) + (chf e f g) + (KT.getD i 0) + ((wsN p 64).getD i 0)) % W32) + (((bsg0 a) + (majf a b c_)) % W32)) % W32)), (165, vw a), (167, vw b), (169, vw c_), (173, vw ((d + ((h + (bsg1 e) + (chf e f g) + (KT.getD i 0) + ((wsN p 64).getD i 0)) % W32)) % W32)), (175, vw e), (177, vw f), (178, pt p66 6)] ?_
       refine GL.s 19 (H284.ld (o := 6) (ty := 22) (v := vw g) 3 rfl (by kernel_rfl) rfl) [(0, pt q 0), (4, pt p3 0), (12, pt p38 0), (13, pt p66 0), (92, vi i), (163, vw ((((h + (bsg1 e) + (chf e f g) + (KT.getD i 0) + ((wsN p 64).getD i 0)) % W32) + (((bsg0 a) + (majf a b c_)) % W32)) % W32)), (165, vw a), (167, vw b), (169, vw c_), (173, vw ((d + ((h + (bsg1 e) + (chf e f g) + (KT.getD i 0) + ((wsN p 64).getD i 0)) % W32)) % W32)), (175, vw e), (177, vw f), (179, vw g)] ?_
       refine GL.r 20 1 [(0, pt q 0), (4, pt p3 0), (12, pt p38 0), (13, pt p66 0), (92, vi i), (180, .agg #[vw ((((h + (bsg1 e) + (chf e f g) + (KT.getD i 0) + ((wsN p 64).getD i 0)) % W32) + (((bsg0 a) + (majf a b c_)) % W32)) % W32), vw a, vw b, vw c_, vw ((d + ((h + (bsg1 e) + (chf e f g) + (KT.getD i 0) + ((wsN p 64).getD i 0)) % W32)) % W32), vw e, vw f, vw g])] ?_
       obtain ⟨w291, r292, H293⟩ := H284.stA (P := Try.prog) (o := 0) (vs := (c8 ((((h + (bsg1 e) + (chf e f g) + (KT.getD i 0) + ((wsN p 64).getD i 0)) % W32) + (((bsg0 a) + (majf a b c_)) % W32)) % W32) a b c_ ((d + ((h + (bsg1 e) + (chf e f g) + (KT.getD i 0) + ((wsN p 64).getD i 0)) % W32)) % W32) e f g)) (ty := 130) (m := 8) 3 rfl (by kernel_rfl) rfl (by exact Nat.le_refl _) (c8_one)
       refine GL.u 21 r292 [(0, pt q 0), (4, pt p3 0), (12, pt p38 0), (13, pt p66 0), (92, vi i)] ?_
       refine GL.q hK230 ?_
       refine G.region ?_
       refine GL.r 2 2 [(0, pt q 0), (4, pt p3 0), (12, pt p38 0), (13, pt p66 0), (92, li (IntKind.i64.wrap ((i : Int) + 1)))] ?_
       have e294 : (IntKind.i64.wrap ((i : Int) + 1)) = ((i + 1 : Nat) : Int) := by rw [in_i64 (by omega)]; omega
       rw [e294]
       clear e294
       refine GL.fit (ts := [0, 4, 12, 13, 92]) (M' := [(0, pt q 0), (4, pt p3 0), (12, pt p38 0), (13, pt p66 0), (92, vi (i + 1))]) (by kernel_rfl) ?_
       refine GL.eq (M' := [(0, pt q 0), (4, pt p3 0), (12, pt p38 0), (13, pt p66 0), (92, vi (i + 1))]) (by rfl) ?_
       exact GL.again ⟨(i + 1), (((h + (bsg1 e) + (chf e f g) + (KT.getD i 0) + ((wsN p 64).getD i 0)) % W32) + (((bsg0 a) + (majf a b c_)) % W32)) % W32, a, b, c_, (d + ((h + (bsg1 e) + (chf e f g) + (KT.getD i 0) + ((wsN p 64).getD i 0)) % W32)) % W32, e, f, g⟩ [0, 4, 12, 13, 92] rfl (by kernel_rfl) (by show 64 - (i + 1) < 64 - i; omega) ⟨⟨by omega, by rw [shaR, ← hv8]; rfl⟩, H293⟩
   have st84 : ∀ (wD_ : World) (p38 : Nat), Hp w S [.blk q (c8 s0 s1 s2 s3 s4 s5 s6 s7) 130, .blk p3 (u32s (wsP p i)) 119, .blk p38 (u32s (wsP p 0)) 119] wD_ → Xd_ [1, 2, 3, 0, 4] [(0, pt q 0), (4, pt p3 0), (12, pt p38 0), (88, .agg (u32s KT).toArray), (91, .agg #[.int .u32 (s0 : Int), .int .u32 (s1 : Int), .int .u32 (s2 : Int), .int .u32 (s3 : Int), .int .u32 (s4 : Int), .int .u32 (s5 : Int), .int .u32 (s6 : Int), .int .u32 (s7 : Int)])] wD_ := by
     intro wD_ p38 HD_
     rw [hXd_]
     have hS295 : Hp w S [.blk q (c8 s0 s1 s2 s3 s4 s5 s6 s7) 130, .blk p3 (u32s (wsP p i)) 119] wD_ := HD_.sub (List.Sublist.cons_cons _ (List.Sublist.cons_cons _ (List.Sublist.cons _ (List.Sublist.slnil))))
     refine GP.all1 5 (by kernel_rfl) ?_
     · skip
       have hS296 : Hp w S [.blk q (c8 s0 s1 s2 s3 s4 s5 s6 s7) 130, .blk p3 (u32s (wsP p i)) 119] wD_ := HD_.sub (List.Sublist.cons_cons _ (List.Sublist.cons_cons _ (List.Sublist.cons _ (List.Sublist.slnil))))
       obtain ⟨p297, w298, r299, H300⟩ := HD_.alloc (P := Try.prog) 130 lz2 (by kernel_rfl)
       have hS301 : Hp w S [.blk q (c8 s0 s1 s2 s3 s4 s5 s6 s7) 130, .blk p3 (u32s (wsP p i)) 119] w298 := H300.sub (List.Sublist.cons_cons _ (List.Sublist.cons_cons _ (List.Sublist.cons _ (List.Sublist.cons _ (List.Sublist.slnil)))))
       refine GO.made r299 [0, 4, 12, 13, 88, 91] [(0, pt q 0), (4, pt p3 0), (12, pt p38 0), (13, pt p297 0), (88, .agg (u32s KT).toArray), (91, .agg #[vw s0, vw s1, vw s2, vw s3, vw s4, vw s5, vw s6, vw s7])] (by kernel_rfl) (by kernel_rfl) hS301 ?_
       refine GP.perm [1, 2, 3, 0, 4, 5] (by kernel_rfl) rfl ?_
       rw [← hXd_]
       exact st87 _ p38 p297 H300
   have st85 : ∀ (wD_ : World) (p43 : Nat), Hp w S [.blk q (c8 s0 s1 s2 s3 s4 s5 s6 s7) 130, .blk p3 (u32s (wsP p i)) 119, .blk p43 [.int .u32 0, .int .u32 0, .int .u32 0, .int .u32 0, .int .u32 0, .int .u32 0, .int .u32 0, .int .u32 0] 130] wD_ → Xd_ [1, 2, 3, 0, 5] [(0, pt q 0), (4, pt p3 0), (13, pt p43 0), (88, .agg (u32s KT).toArray), (91, .agg #[.int .u32 (s0 : Int), .int .u32 (s1 : Int), .int .u32 (s2 : Int), .int .u32 (s3 : Int), .int .u32 (s4 : Int), .int .u32 (s5 : Int), .int .u32 (s6 : Int), .int .u32 (s7 : Int)])] wD_ := by
     intro wD_ p43 HD_
     rw [hXd_]
     have hS302 : Hp w S [.blk q (c8 s0 s1 s2 s3 s4 s5 s6 s7) 130, .blk p3 (u32s (wsP p i)) 119] wD_ := HD_.sub (List.Sublist.cons_cons _ (List.Sublist.cons_cons _ (List.Sublist.cons _ (List.Sublist.slnil))))
     refine GP.all1 4 (by kernel_rfl) ?_
     · skip
       have hS303 : Hp w S [.blk q (c8 s0 s1 s2 s3 s4 s5 s6 s7) 130, .blk p3 (u32s (wsP p i)) 119] wD_ := HD_.sub (List.Sublist.cons_cons _ (List.Sublist.cons_cons _ (List.Sublist.cons _ (List.Sublist.slnil))))
       obtain ⟨p304, w305, r306, H307⟩ := HD_.alloc (P := Try.prog) 119 (u32s (wsP p 0)) (by kernel_rfl)
       have hS308 : Hp w S [.blk q (c8 s0 s1 s2 s3 s4 s5 s6 s7) 130, .blk p3 (u32s (wsP p i)) 119] w305 := H307.sub (List.Sublist.cons_cons _ (List.Sublist.cons_cons _ (List.Sublist.cons _ (List.Sublist.cons _ (List.Sublist.slnil)))))
       refine GO.made r306 [0, 4, 12, 13, 88, 91] [(0, pt q 0), (4, pt p3 0), (12, pt p304 0), (13, pt p43 0), (88, .agg (u32s KT).toArray), (91, .agg #[vw s0, vw s1, vw s2, vw s3, vw s4, vw s5, vw s6, vw s7])] (by kernel_rfl) (by kernel_rfl) hS308 ?_
       have H309 := (Hp.reorder (L' := [.blk q (c8 s0 s1 s2 s3 s4 s5 s6 s7) 130, .blk p3 (u32s (wsP p i)) 119, .blk p304 (u32s (wsP p 0)) 119, .blk p43 lz2 130]) H307 (List.Perm.cons _ (List.Perm.cons _ (List.Perm.trans (List.Perm.swap _ _ _) (List.Perm.refl _)))))
       refine GP.perm [1, 2, 3, 0, 4, 5] (by kernel_rfl) rfl ?_
       rw [← hXd_]
       exact st87 _ p304 p43 H309
   have st86 : ∀ (wD_ : World) (p28 : Nat) (p52 : Nat), Hp w S [.blk q (c8 s0 s1 s2 s3 s4 s5 s6 s7) 130, .blk p3 (u32s (wsP p i)) 119, .blk p28 (u32s (wsP p 0)) 119, .blk p52 [.int .u32 0, .int .u32 0, .int .u32 0, .int .u32 0, .int .u32 0, .int .u32 0, .int .u32 0, .int .u32 0] 130] wD_ → Xd_ [1, 2, 3, 4, 5] [(0, pt q 0), (4, pt p3 0), (12, pt p28 0), (13, pt p52 0), (91, .agg #[.int .u32 (s0 : Int), .int .u32 (s1 : Int), .int .u32 (s2 : Int), .int .u32 (s3 : Int), .int .u32 (s4 : Int), .int .u32 (s5 : Int), .int .u32 (s6 : Int), .int .u32 (s7 : Int)])] wD_ := by
     intro wD_ p28 p52 HD_
     rw [hXd_]
     have hS310 : Hp w S [.blk q (c8 s0 s1 s2 s3 s4 s5 s6 s7) 130, .blk p3 (u32s (wsP p i)) 119] wD_ := HD_.sub (List.Sublist.cons_cons _ (List.Sublist.cons_cons _ (List.Sublist.cons _ (List.Sublist.cons _ (List.Sublist.slnil)))))
     refine GP.all1 0 (by kernel_rfl) ?_
     · skip
       have hS311 : Hp w S [.blk q (c8 s0 s1 s2 s3 s4 s5 s6 s7) 130, .blk p3 (u32s (wsP p i)) 119] wD_ := HD_.sub (List.Sublist.cons_cons _ (List.Sublist.cons_cons _ (List.Sublist.cons _ (List.Sublist.cons _ (List.Sublist.slnil)))))
       refine GO.call (Constants_calls wD_) (by kernel_rfl) (fun e_ w312 hR => ?_)
       obtain ⟨rfl, H314⟩ := hR
       have H313 : Hp w S [.blk q (c8 s0 s1 s2 s3 s4 s5 s6 s7) 130, .blk p3 (u32s (wsP p i)) 119, .blk p28 (u32s (wsP p 0)) 119, .blk p52 lz2 130] w312 := HD_.callNil H314
       have hS315 : Hp w S [.blk q (c8 s0 s1 s2 s3 s4 s5 s6 s7) 130, .blk p3 (u32s (wsP p i)) 119] w312 := H313.sub (List.Sublist.cons_cons _ (List.Sublist.cons_cons _ (List.Sublist.cons _ (List.Sublist.cons _ (List.Sublist.slnil)))))
       refine ⟨_, rfl, hS315, [0, 4, 12, 13, 88, 91], [(0, pt q 0), (4, pt p3 0), (12, pt p28 0), (13, pt p52 0), (88, .agg (u32s KT).toArray), (91, .agg #[vw s0, vw s1, vw s2, vw s3, vw s4, vw s5, vw s6, vw s7])], by kernel_rfl, ?_⟩
       refine GP.perm [1, 2, 3, 0, 4, 5] (by kernel_rfl) rfl ?_
       rw [← hXd_]
       exact st87 _ p28 p52 H313
   have st81 : ∀ (wD_ : World), Hp w S [.blk q (c8 s0 s1 s2 s3 s4 s5 s6 s7) 130, .blk p3 (u32s (wsP p i)) 119] wD_ → Xd_ [1, 2, 3, 0] [(0, pt q 0), (4, pt p3 0), (88, .agg (u32s KT).toArray), (91, .agg #[.int .u32 (s0 : Int), .int .u32 (s1 : Int), .int .u32 (s2 : Int), .int .u32 (s3 : Int), .int .u32 (s4 : Int), .int .u32 (s5 : Int), .int .u32 (s6 : Int), .int .u32 (s7 : Int)])] wD_ := by
     intro wD_ HD_
     rw [hXd_]
     have hS316 : Hp w S [.blk q (c8 s0 s1 s2 s3 s4 s5 s6 s7) 130, .blk p3 (u32s (wsP p i)) 119] wD_ := HD_.sub (List.Sublist.cons_cons _ (List.Sublist.cons_cons _ (List.Sublist.slnil)))
     refine GP.all2 4 5 (by kernel_rfl) ?_ ?_
     · skip
       have hS317 : Hp w S [.blk q (c8 s0 s1 s2 s3 s4 s5 s6 s7) 130, .blk p3 (u32s (wsP p i)) 119] wD_ := HD_.sub (List.Sublist.cons_cons _ (List.Sublist.cons_cons _ (List.Sublist.slnil)))
       obtain ⟨p318, w319, r320, H321⟩ := HD_.alloc (P := Try.prog) 119 (u32s (wsP p 0)) (by kernel_rfl)
       have hS322 : Hp w S [.blk q (c8 s0 s1 s2 s3 s4 s5 s6 s7) 130, .blk p3 (u32s (wsP p i)) 119] w319 := H321.sub (List.Sublist.cons_cons _ (List.Sublist.cons_cons _ (List.Sublist.cons _ (List.Sublist.slnil))))
       refine GO.made r320 [0, 4, 12, 88, 91] [(0, pt q 0), (4, pt p3 0), (12, pt p318 0), (88, .agg (u32s KT).toArray), (91, .agg #[vw s0, vw s1, vw s2, vw s3, vw s4, vw s5, vw s6, vw s7])] (by kernel_rfl) (by kernel_rfl) hS322 ?_
       refine GP.perm [1, 2, 3, 0, 4] (by kernel_rfl) rfl ?_
       rw [← hXd_]
       exact st84 _ p318 H321
     · skip
       have hS323 : Hp w S [.blk q (c8 s0 s1 s2 s3 s4 s5 s6 s7) 130, .blk p3 (u32s (wsP p i)) 119] wD_ := HD_.sub (List.Sublist.cons_cons _ (List.Sublist.cons_cons _ (List.Sublist.slnil)))
       obtain ⟨p324, w325, r326, H327⟩ := HD_.alloc (P := Try.prog) 130 lz2 (by kernel_rfl)
       have hS328 : Hp w S [.blk q (c8 s0 s1 s2 s3 s4 s5 s6 s7) 130, .blk p3 (u32s (wsP p i)) 119] w325 := H327.sub (List.Sublist.cons_cons _ (List.Sublist.cons_cons _ (List.Sublist.cons _ (List.Sublist.slnil))))
       refine GO.made r326 [0, 4, 13, 88, 91] [(0, pt q 0), (4, pt p3 0), (13, pt p324 0), (88, .agg (u32s KT).toArray), (91, .agg #[vw s0, vw s1, vw s2, vw s3, vw s4, vw s5, vw s6, vw s7])] (by kernel_rfl) (by kernel_rfl) hS328 ?_
       refine GP.perm [1, 2, 3, 0, 5] (by kernel_rfl) rfl ?_
       rw [← hXd_]
       exact st85 _ p324 H327
   have st82 : ∀ (wD_ : World) (p28 : Nat), Hp w S [.blk q (c8 s0 s1 s2 s3 s4 s5 s6 s7) 130, .blk p3 (u32s (wsP p i)) 119, .blk p28 (u32s (wsP p 0)) 119] wD_ → Xd_ [1, 2, 3, 4] [(0, pt q 0), (4, pt p3 0), (12, pt p28 0), (91, .agg #[.int .u32 (s0 : Int), .int .u32 (s1 : Int), .int .u32 (s2 : Int), .int .u32 (s3 : Int), .int .u32 (s4 : Int), .int .u32 (s5 : Int), .int .u32 (s6 : Int), .int .u32 (s7 : Int)])] wD_ := by
     intro wD_ p28 HD_
     rw [hXd_]
     have hS329 : Hp w S [.blk q (c8 s0 s1 s2 s3 s4 s5 s6 s7) 130, .blk p3 (u32s (wsP p i)) 119] wD_ := HD_.sub (List.Sublist.cons_cons _ (List.Sublist.cons_cons _ (List.Sublist.cons _ (List.Sublist.slnil))))
     refine GP.all2 0 5 (by kernel_rfl) ?_ ?_
     · skip
       have hS330 : Hp w S [.blk q (c8 s0 s1 s2 s3 s4 s5 s6 s7) 130, .blk p3 (u32s (wsP p i)) 119] wD_ := HD_.sub (List.Sublist.cons_cons _ (List.Sublist.cons_cons _ (List.Sublist.cons _ (List.Sublist.slnil))))
       refine GO.call (Constants_calls wD_) (by kernel_rfl) (fun e_ w331 hR => ?_)
       obtain ⟨rfl, H333⟩ := hR
       have H332 : Hp w S [.blk q (c8 s0 s1 s2 s3 s4 s5 s6 s7) 130, .blk p3 (u32s (wsP p i)) 119, .blk p28 (u32s (wsP p 0)) 119] w331 := HD_.callNil H333
       have hS334 : Hp w S [.blk q (c8 s0 s1 s2 s3 s4 s5 s6 s7) 130, .blk p3 (u32s (wsP p i)) 119] w331 := H332.sub (List.Sublist.cons_cons _ (List.Sublist.cons_cons _ (List.Sublist.cons _ (List.Sublist.slnil))))
       refine ⟨_, rfl, hS334, [0, 4, 12, 88, 91], [(0, pt q 0), (4, pt p3 0), (12, pt p28 0), (88, .agg (u32s KT).toArray), (91, .agg #[vw s0, vw s1, vw s2, vw s3, vw s4, vw s5, vw s6, vw s7])], by kernel_rfl, ?_⟩
       refine GP.perm [1, 2, 3, 0, 4] (by kernel_rfl) rfl ?_
       rw [← hXd_]
       exact st84 _ p28 H332
     · skip
       have hS335 : Hp w S [.blk q (c8 s0 s1 s2 s3 s4 s5 s6 s7) 130, .blk p3 (u32s (wsP p i)) 119] wD_ := HD_.sub (List.Sublist.cons_cons _ (List.Sublist.cons_cons _ (List.Sublist.cons _ (List.Sublist.slnil))))
       obtain ⟨p336, w337, r338, H339⟩ := HD_.alloc (P := Try.prog) 130 lz2 (by kernel_rfl)
       have hS340 : Hp w S [.blk q (c8 s0 s1 s2 s3 s4 s5 s6 s7) 130, .blk p3 (u32s (wsP p i)) 119] w337 := H339.sub (List.Sublist.cons_cons _ (List.Sublist.cons_cons _ (List.Sublist.cons _ (List.Sublist.cons _ (List.Sublist.slnil)))))
       refine GO.made r338 [0, 4, 12, 13, 91] [(0, pt q 0), (4, pt p3 0), (12, pt p28 0), (13, pt p336 0), (91, .agg #[vw s0, vw s1, vw s2, vw s3, vw s4, vw s5, vw s6, vw s7])] (by kernel_rfl) (by kernel_rfl) hS340 ?_
       refine GP.perm [1, 2, 3, 4, 5] (by kernel_rfl) rfl ?_
       rw [← hXd_]
       exact st86 _ p28 p336 H339
   have st83 : ∀ (wD_ : World) (p33 : Nat), Hp w S [.blk q (c8 s0 s1 s2 s3 s4 s5 s6 s7) 130, .blk p3 (u32s (wsP p i)) 119, .blk p33 [.int .u32 0, .int .u32 0, .int .u32 0, .int .u32 0, .int .u32 0, .int .u32 0, .int .u32 0, .int .u32 0] 130] wD_ → Xd_ [1, 2, 3, 5] [(0, pt q 0), (4, pt p3 0), (13, pt p33 0), (91, .agg #[.int .u32 (s0 : Int), .int .u32 (s1 : Int), .int .u32 (s2 : Int), .int .u32 (s3 : Int), .int .u32 (s4 : Int), .int .u32 (s5 : Int), .int .u32 (s6 : Int), .int .u32 (s7 : Int)])] wD_ := by
     intro wD_ p33 HD_
     rw [hXd_]
     have hS341 : Hp w S [.blk q (c8 s0 s1 s2 s3 s4 s5 s6 s7) 130, .blk p3 (u32s (wsP p i)) 119] wD_ := HD_.sub (List.Sublist.cons_cons _ (List.Sublist.cons_cons _ (List.Sublist.cons _ (List.Sublist.slnil))))
     refine GP.all2 0 4 (by kernel_rfl) ?_ ?_
     · skip
       have hS342 : Hp w S [.blk q (c8 s0 s1 s2 s3 s4 s5 s6 s7) 130, .blk p3 (u32s (wsP p i)) 119] wD_ := HD_.sub (List.Sublist.cons_cons _ (List.Sublist.cons_cons _ (List.Sublist.cons _ (List.Sublist.slnil))))
       refine GO.call (Constants_calls wD_) (by kernel_rfl) (fun e_ w343 hR => ?_)
       obtain ⟨rfl, H345⟩ := hR
       have H344 : Hp w S [.blk q (c8 s0 s1 s2 s3 s4 s5 s6 s7) 130, .blk p3 (u32s (wsP p i)) 119, .blk p33 lz2 130] w343 := HD_.callNil H345
       have hS346 : Hp w S [.blk q (c8 s0 s1 s2 s3 s4 s5 s6 s7) 130, .blk p3 (u32s (wsP p i)) 119] w343 := H344.sub (List.Sublist.cons_cons _ (List.Sublist.cons_cons _ (List.Sublist.cons _ (List.Sublist.slnil))))
       refine ⟨_, rfl, hS346, [0, 4, 13, 88, 91], [(0, pt q 0), (4, pt p3 0), (13, pt p33 0), (88, .agg (u32s KT).toArray), (91, .agg #[vw s0, vw s1, vw s2, vw s3, vw s4, vw s5, vw s6, vw s7])], by kernel_rfl, ?_⟩
       refine GP.perm [1, 2, 3, 0, 5] (by kernel_rfl) rfl ?_
       rw [← hXd_]
       exact st85 _ p33 H344
     · skip
       have hS347 : Hp w S [.blk q (c8 s0 s1 s2 s3 s4 s5 s6 s7) 130, .blk p3 (u32s (wsP p i)) 119] wD_ := HD_.sub (List.Sublist.cons_cons _ (List.Sublist.cons_cons _ (List.Sublist.cons _ (List.Sublist.slnil))))
       obtain ⟨p348, w349, r350, H351⟩ := HD_.alloc (P := Try.prog) 119 (u32s (wsP p 0)) (by kernel_rfl)
       have hS352 : Hp w S [.blk q (c8 s0 s1 s2 s3 s4 s5 s6 s7) 130, .blk p3 (u32s (wsP p i)) 119] w349 := H351.sub (List.Sublist.cons_cons _ (List.Sublist.cons_cons _ (List.Sublist.cons _ (List.Sublist.cons _ (List.Sublist.slnil)))))
       refine GO.made r350 [0, 4, 12, 13, 91] [(0, pt q 0), (4, pt p3 0), (12, pt p348 0), (13, pt p33 0), (91, .agg #[vw s0, vw s1, vw s2, vw s3, vw s4, vw s5, vw s6, vw s7])] (by kernel_rfl) (by kernel_rfl) hS352 ?_
       have H353 := (Hp.reorder (L' := [.blk q (c8 s0 s1 s2 s3 s4 s5 s6 s7) 130, .blk p3 (u32s (wsP p i)) 119, .blk p348 (u32s (wsP p 0)) 119, .blk p33 lz2 130]) H351 (List.Perm.cons _ (List.Perm.cons _ (List.Perm.trans (List.Perm.swap _ _ _) (List.Perm.refl _)))))
       refine GP.perm [1, 2, 3, 4, 5] (by kernel_rfl) rfl ?_
       rw [← hXd_]
       exact st86 _ p348 p33 H353
   have st80 : ∀ (wD_ : World), Hp w S [.blk q (c8 s0 s1 s2 s3 s4 s5 s6 s7) 130, .blk p3 (u32s (wsP p i)) 119] wD_ → Xd_ [1, 2, 3] [(0, pt q 0), (4, pt p3 0), (91, .agg #[.int .u32 (s0 : Int), .int .u32 (s1 : Int), .int .u32 (s2 : Int), .int .u32 (s3 : Int), .int .u32 (s4 : Int), .int .u32 (s5 : Int), .int .u32 (s6 : Int), .int .u32 (s7 : Int)])] wD_ := by
     intro wD_ HD_
     rw [hXd_]
     have hS354 : Hp w S [.blk q (c8 s0 s1 s2 s3 s4 s5 s6 s7) 130, .blk p3 (u32s (wsP p i)) 119] wD_ := HD_.sub (List.Sublist.cons_cons _ (List.Sublist.cons_cons _ (List.Sublist.slnil)))
     refine GP.all3 0 4 5 (by kernel_rfl) ?_ ?_ ?_
     · skip
       have hS355 : Hp w S [.blk q (c8 s0 s1 s2 s3 s4 s5 s6 s7) 130, .blk p3 (u32s (wsP p i)) 119] wD_ := HD_.sub (List.Sublist.cons_cons _ (List.Sublist.cons_cons _ (List.Sublist.slnil)))
       refine GO.call (Constants_calls wD_) (by kernel_rfl) (fun e_ w356 hR => ?_)
       obtain ⟨rfl, H358⟩ := hR
       have H357 : Hp w S [.blk q (c8 s0 s1 s2 s3 s4 s5 s6 s7) 130, .blk p3 (u32s (wsP p i)) 119] w356 := HD_.callNil H358
       have hS359 : Hp w S [.blk q (c8 s0 s1 s2 s3 s4 s5 s6 s7) 130, .blk p3 (u32s (wsP p i)) 119] w356 := H357.sub (List.Sublist.cons_cons _ (List.Sublist.cons_cons _ (List.Sublist.slnil)))
       refine ⟨_, rfl, hS359, [0, 4, 88, 91], [(0, pt q 0), (4, pt p3 0), (88, .agg (u32s KT).toArray), (91, .agg #[vw s0, vw s1, vw s2, vw s3, vw s4, vw s5, vw s6, vw s7])], by kernel_rfl, ?_⟩
       refine GP.perm [1, 2, 3, 0] (by kernel_rfl) rfl ?_
       rw [← hXd_]
       exact st81 _ H357
     · skip
       have hS360 : Hp w S [.blk q (c8 s0 s1 s2 s3 s4 s5 s6 s7) 130, .blk p3 (u32s (wsP p i)) 119] wD_ := HD_.sub (List.Sublist.cons_cons _ (List.Sublist.cons_cons _ (List.Sublist.slnil)))
       obtain ⟨p361, w362, r363, H364⟩ := HD_.alloc (P := Try.prog) 119 (u32s (wsP p 0)) (by kernel_rfl)
       have hS365 : Hp w S [.blk q (c8 s0 s1 s2 s3 s4 s5 s6 s7) 130, .blk p3 (u32s (wsP p i)) 119] w362 := H364.sub (List.Sublist.cons_cons _ (List.Sublist.cons_cons _ (List.Sublist.cons _ (List.Sublist.slnil))))
       refine GO.made r363 [0, 4, 12, 91] [(0, pt q 0), (4, pt p3 0), (12, pt p361 0), (91, .agg #[vw s0, vw s1, vw s2, vw s3, vw s4, vw s5, vw s6, vw s7])] (by kernel_rfl) (by kernel_rfl) hS365 ?_
       refine GP.perm [1, 2, 3, 4] (by kernel_rfl) rfl ?_
       rw [← hXd_]
       exact st82 _ p361 H364
     · skip
       have hS366 : Hp w S [.blk q (c8 s0 s1 s2 s3 s4 s5 s6 s7) 130, .blk p3 (u32s (wsP p i)) 119] wD_ := HD_.sub (List.Sublist.cons_cons _ (List.Sublist.cons_cons _ (List.Sublist.slnil)))
       obtain ⟨p367, w368, r369, H370⟩ := HD_.alloc (P := Try.prog) 130 lz2 (by kernel_rfl)
       have hS371 : Hp w S [.blk q (c8 s0 s1 s2 s3 s4 s5 s6 s7) 130, .blk p3 (u32s (wsP p i)) 119] w368 := H370.sub (List.Sublist.cons_cons _ (List.Sublist.cons_cons _ (List.Sublist.cons _ (List.Sublist.slnil))))
       refine GO.made r369 [0, 4, 13, 91] [(0, pt q 0), (4, pt p3 0), (13, pt p367 0), (91, .agg #[vw s0, vw s1, vw s2, vw s3, vw s4, vw s5, vw s6, vw s7])] (by kernel_rfl) (by kernel_rfl) hS371 ?_
       refine GP.perm [1, 2, 3, 5] (by kernel_rfl) rfl ?_
       rw [← hXd_]
       exact st83 _ p367 H370
   exact st80 _ H21
 · skip
   have hb18f := of_decide_eq_true hb18
   refine G.yes rfl ?_
   refine G.skipK hK17 (fun _ _ h => h) ?_
   refine G.seqK fun K372 hK373 => ?_
   refine G.block ?_
   refine G.sr fun K374 hK375 => ?_
   refine GL.r 2 2 [(0, pt q 0), (1, .slice A 64 C), (4, pt p3 0), (5, vi i), (21, vi i)] ?_
   refine GL.q hK375 ?_
   refine G.seqK fun K376 hK377 => ?_
   refine G.sr fun K378 hK379 => ?_
   refine GL.r 2 2 [(0, pt q 0), (1, .slice A 64 C), (4, pt p3 0), (5, vi i), (21, vi i), (25, .bool (decide ((i : Int) < 16)))] ?_
   refine GL.q hK379 ?_
   cases hb380 : (decide ((i : Int) < 16))
   · skip
     have hb380f := of_decide_eq_false hb380
     refine G.no rfl ?_
     refine G.skipK hK377 (fun _ _ h => h) ?_
     refine G.seqK fun K381 hK382 => ?_
     refine G.draw H13 (by kernel_rfl) (by kernel_rfl) ?_
     refine GQ.r 2 2 [(0, pt q 0), (1, .slice A 64 C), (4, pt p3 0), (5, vi i), (21, vi i), (49, li (IntKind.i64.wrap ((i : Int) - 15)))] ?_
     have e383 : (IntKind.i64.wrap ((i : Int) - 15)) = (((i - 15) : Nat) : Int) := by rw [in_i64 (by omega)]; omega
     refine GQ.eq (M' := [(0, pt q 0), (1, .slice A 64 C), (4, pt p3 0), (5, vi i), (21, vi i), (49, vi (i - 15))]) (by rw [e383]) ?_
     clear e383
     refine GQ.s 3 (fun w_ H_ => run_idxArr (P := Try.prog) (k := .i64) (t := 119) (len := 64) (sz := 1) (b := p3) (o := 0) (j := (i - 15)) (by kernel_rfl) rfl (by omega)) [(0, pt q 0), (1, .slice A 64 C), (4, pt p3 0), (5, vi i), (21, vi i), (50, pt p3 (0 + (i - 15) * 1))] ?_
     refine GQ.s 4 (fun w_ H_ => H_.ld (o := (0 + (i - 15) * 1)) (ty := 22) (v := vw ((wsN p i).getD (i - 15) 0)) 1 rfl (by kernel_rfl) (by rw [show (0 + (i - 15) * 1) = (i - 15) by omega]; exact u32s_at (wsP_at (by omega) (by omega)))) [(0, pt q 0), (1, .slice A 64 C), (4, pt p3 0), (5, vi i), (21, vi i), (51, vw ((wsN p i).getD (i - 15) 0))] ?_
     refine GQ.r 6 2 [(0, pt q 0), (1, .slice A 64 C), (4, pt p3 0), (5, vi i), (21, vi i), (51, vw ((wsN p i).getD (i - 15) 0)), (53, li (IntKind.i64.wrap ((i : Int) - 2)))] ?_
     have e384 : (IntKind.i64.wrap ((i : Int) - 2)) = (((i - 2) : Nat) : Int) := by rw [in_i64 (by omega)]; omega
     refine GQ.eq (M' := [(0, pt q 0), (1, .slice A 64 C), (4, pt p3 0), (5, vi i), (21, vi i), (51, vw ((wsN p i).getD (i - 15) 0)), (53, vi (i - 2))]) (by rw [e384]) ?_
     clear e384
     refine GQ.s 7 (fun w_ H_ => run_idxArr (P := Try.prog) (k := .i64) (t := 119) (len := 64) (sz := 1) (b := p3) (o := 0) (j := (i - 2)) (by kernel_rfl) rfl (by omega)) [(0, pt q 0), (1, .slice A 64 C), (4, pt p3 0), (5, vi i), (21, vi i), (51, vw ((wsN p i).getD (i - 15) 0)), (54, pt p3 (0 + (i - 2) * 1))] ?_
     refine GQ.s 8 (fun w_ H_ => H_.ld (o := (0 + (i - 2) * 1)) (ty := 22) (v := vw ((wsN p i).getD (i - 2) 0)) 1 rfl (by kernel_rfl) (by rw [show (0 + (i - 2) * 1) = (i - 2) by omega]; exact u32s_at (wsP_at (by omega) (by omega)))) [(0, pt q 0), (1, .slice A 64 C), (4, pt p3 0), (5, vi i), (21, vi i), (51, vw ((wsN p i).getD (i - 15) 0)), (55, vw ((wsN p i).getD (i - 2) 0))] ?_
     refine GQ.r 10 2 [(0, pt q 0), (1, .slice A 64 C), (4, pt p3 0), (5, vi i), (8, vw ((wsN p i).getD (i - 15) 0)), (9, vw ((wsN p i).getD (i - 2) 0)), (21, vi i)] ?_
     refine GQ.k rfl hK382 (fun _ _ h => h) (fun w385 H386 => ?_)
     refine G.sr fun K387 hK388 => ?_
     refine GL.r 1 1 [(0, pt q 0), (1, .slice A 64 C), (4, pt p3 0), (5, vi i), (8, vw ((wsN p i).getD (i - 15) 0)), (9, vw ((wsN p i).getD (i - 2) 0)), (21, vi i), (56, vw ((wsN p i).getD (i - 15) 0))] ?_
     refine GL.call (j := 2) (Turn7_calls ((wsN p i).getD (i - 15) 0) (getD_lt (wsN_lt p i) _) w385) (by kernel_rfl) rfl (fun e_ w389 hR => ?_)
     obtain ⟨rfl, H391⟩ := hR
     have H390 : Hp w S [.blk q (c8 s0 s1 s2 s3 s4 s5 s6 s7) 130, .blk p3 (u32s (wsP p i)) 119] w389 := H386.callNil H391
     refine ⟨_, rfl, [0, 1, 4, 5, 8, 9, 21, 57], [(0, pt q 0), (1, .slice A 64 C), (4, pt p3 0), (5, vi i), (8, vw ((wsN p i).getD (i - 15) 0)), (9, vw ((wsN p i).getD (i - 2) 0)), (21, vi i), (57, vw (rt ((wsN p i).getD (i - 15) 0) 7))], by kernel_rfl, ?_⟩
     refine GL.r 3 1 [(0, pt q 0), (1, .slice A 64 C), (4, pt p3 0), (5, vi i), (8, vw ((wsN p i).getD (i - 15) 0)), (9, vw ((wsN p i).getD (i - 2) 0)), (21, vi i), (57, vw (rt ((wsN p i).getD (i - 15) 0) 7)), (58, vw ((wsN p i).getD (i - 15) 0))] ?_
     refine GL.call (j := 4) (Turn18_calls ((wsN p i).getD (i - 15) 0) (getD_lt (wsN_lt p i) _) w389) (by kernel_rfl) rfl (fun e_ w392 hR => ?_)
     obtain ⟨rfl, H394⟩ := hR
     have H393 : Hp w S [.blk q (c8 s0 s1 s2 s3 s4 s5 s6 s7) 130, .blk p3 (u32s (wsP p i)) 119] w392 := H390.callNil H394
     refine ⟨_, rfl, [0, 1, 4, 5, 8, 9, 21, 57, 59], [(0, pt q 0), (1, .slice A 64 C), (4, pt p3 0), (5, vi i), (8, vw ((wsN p i).getD (i - 15) 0)), (9, vw ((wsN p i).getD (i - 2) 0)), (21, vi i), (57, vw (rt ((wsN p i).getD (i - 15) 0) 7)), (59, vw (rt ((wsN p i).getD (i - 15) 0) 18))], by kernel_rfl, ?_⟩
     refine GL.r 9 5 [(0, pt q 0), (1, .slice A 64 C), (4, pt p3 0), (5, vi i), (9, vw ((wsN p i).getD (i - 2) 0)), (10, lw (Go.bits .xor .u32 (Go.bits .xor .u32 (((rt ((wsN p i).getD (i - 15) 0) 7) : Nat) : Int) (((rt ((wsN p i).getD (i - 15) 0) 18) : Nat) : Int)) (Int.fdiv ((((wsN p i).getD (i - 15) 0) : Nat) : Int) (2 ^ 3)))), (21, vi i)] ?_
     have e395 : (Go.bits .xor .u32 (((rt ((wsN p i).getD (i - 15) 0) 7) : Nat) : Int) (((rt ((wsN p i).getD (i - 15) 0) 18) : Nat) : Int)) = ((((rt ((wsN p i).getD (i - 15) 0) 7) ^^^ (rt ((wsN p i).getD (i - 15) 0) 18)) : Nat) : Int) := w_xor (rt_lt (getD_lt (wsN_lt p i) _)) (rt_lt (getD_lt (wsN_lt p i) _))
     have e396 : (Int.fdiv ((((wsN p i).getD (i - 15) 0) : Nat) : Int) (2 ^ 3)) = (((((wsN p i).getD (i - 15) 0) / 2 ^ 3) : Nat) : Int) := n_shr _ 3
     have e397 : (Go.bits .xor .u32 ((((rt ((wsN p i).getD (i - 15) 0) 7) ^^^ (rt ((wsN p i).getD (i - 15) 0) 18)) : Nat) : Int) (((((wsN p i).getD (i - 15) 0) / 2 ^ 3) : Nat) : Int)) = (((ssg0 ((wsN p i).getD (i - 15) 0)) : Nat) : Int) := w_xor (xor_lt32 (rt_lt (getD_lt (wsN_lt p i) _)) (rt_lt (getD_lt (wsN_lt p i) _))) (Nat.lt_of_le_of_lt (Nat.div_le_self _ _) (getD_lt (wsN_lt p i) _))
     rw [e395, e396, e397]
     clear e395 e396 e397
     refine GL.q hK388 ?_
     refine G.sr fun K398 hK399 => ?_
     refine GL.r 1 1 [(0, pt q 0), (1, .slice A 64 C), (4, pt p3 0), (5, vi i), (9, vw ((wsN p i).getD (i - 2) 0)), (10, vw (ssg0 ((wsN p i).getD (i - 15) 0))), (21, vi i), (64, vw ((wsN p i).getD (i - 2) 0))] ?_
     refine GL.call (j := 2) (Turn17_calls ((wsN p i).getD (i - 2) 0) (getD_lt (wsN_lt p i) _) w392) (by kernel_rfl) rfl (fun e_ w400 hR => ?_)
     obtain ⟨rfl, H402⟩ := hR
     have H401 : Hp w S [.blk q (c8 s0 s1 s2 s3 s4 s5 s6 s7) 130, .blk p3 (u32s (wsP p i)) 119] w400 := H393.callNil H402
     refine ⟨_, rfl, [0, 1, 4, 5, 9, 10, 21, 65], [(0, pt q 0), (1, .slice A 64 C), (4, pt p3 0), (5, vi i), (9, vw ((wsN p i).getD (i - 2) 0)), (10, vw (ssg0 ((wsN p i).getD (i - 15) 0))), (21, vi i), (65, vw (rt ((wsN p i).getD (i - 2) 0) 17))], by kernel_rfl, ?_⟩
     refine GL.r 3 1 [(0, pt q 0), (1, .slice A 64 C), (4, pt p3 0), (5, vi i), (9, vw ((wsN p i).getD (i - 2) 0)), (10, vw (ssg0 ((wsN p i).getD (i - 15) 0))), (21, vi i), (65, vw (rt ((wsN p i).getD (i - 2) 0) 17)), (66, vw ((wsN p i).getD (i - 2) 0))] ?_
     refine GL.call (j := 4) (Turn19_calls ((wsN p i).getD (i - 2) 0) (getD_lt (wsN_lt p i) _) w400) (by kernel_rfl) rfl (fun e_ w403 hR => ?_)
     obtain ⟨rfl, H405⟩ := hR
     have H404 : Hp w S [.blk q (c8 s0 s1 s2 s3 s4 s5 s6 s7) 130, .blk p3 (u32s (wsP p i)) 119] w403 := H401.callNil H405
     refine ⟨_, rfl, [0, 1, 4, 5, 9, 10, 21, 65, 67], [(0, pt q 0), (1, .slice A 64 C), (4, pt p3 0), (5, vi i), (9, vw ((wsN p i).getD (i - 2) 0)), (10, vw (ssg0 ((wsN p i).getD (i - 15) 0))), (21, vi i), (65, vw (rt ((wsN p i).getD (i - 2) 0) 17)), (67, vw (rt ((wsN p i).getD (i - 2) 0) 19))], by kernel_rfl, ?_⟩
     refine GL.r 9 5 [(0, pt q 0), (1, .slice A 64 C), (4, pt p3 0), (5, vi i), (10, vw (ssg0 ((wsN p i).getD (i - 15) 0))), (11, lw (Go.bits .xor .u32 (Go.bits .xor .u32 (((rt ((wsN p i).getD (i - 2) 0) 17) : Nat) : Int) (((rt ((wsN p i).getD (i - 2) 0) 19) : Nat) : Int)) (Int.fdiv ((((wsN p i).getD (i - 2) 0) : Nat) : Int) (2 ^ 10)))), (21, vi i)] ?_
     have e406 : (Go.bits .xor .u32 (((rt ((wsN p i).getD (i - 2) 0) 17) : Nat) : Int) (((rt ((wsN p i).getD (i - 2) 0) 19) : Nat) : Int)) = ((((rt ((wsN p i).getD (i - 2) 0) 17) ^^^ (rt ((wsN p i).getD (i - 2) 0) 19)) : Nat) : Int) := w_xor (rt_lt (getD_lt (wsN_lt p i) _)) (rt_lt (getD_lt (wsN_lt p i) _))
     have e407 : (Int.fdiv ((((wsN p i).getD (i - 2) 0) : Nat) : Int) (2 ^ 10)) = (((((wsN p i).getD (i - 2) 0) / 2 ^ 10) : Nat) : Int) := n_shr _ 10
     have e408 : (Go.bits .xor .u32 ((((rt ((wsN p i).getD (i - 2) 0) 17) ^^^ (rt ((wsN p i).getD (i - 2) 0) 19)) : Nat) : Int) (((((wsN p i).getD (i - 2) 0) / 2 ^ 10) : Nat) : Int)) = (((ssg1 ((wsN p i).getD (i - 2) 0)) : Nat) : Int) := w_xor (xor_lt32 (rt_lt (getD_lt (wsN_lt p i) _)) (rt_lt (getD_lt (wsN_lt p i) _))) (Nat.lt_of_le_of_lt (Nat.div_le_self _ _) (getD_lt (wsN_lt p i) _))
     rw [e406, e407, e408]
     clear e406 e407 e408
     refine GL.q hK399 ?_
     refine G.tail 15 (by kernel_rfl) (by kernel_rfl) ?_
     have H409 := H404.drew
     generalize ({ w403 with drawn := w403.drawn + 1 } : World) = w410 at H409 ⊢
     refine GS.r 3 3 [(0, pt q 0), (1, .slice A 64 C), (4, pt p3 0), (5, vi i), (10, vw (ssg0 ((wsN p i).getD (i - 15) 0))), (11, vw (ssg1 ((wsN p i).getD (i - 2) 0))), (21, vi i), (72, vi i), (74, li (IntKind.i64.wrap ((i : Int) - 16)))] ?_
     have e411 : (IntKind.i64.wrap ((i : Int) - 16)) = (((i - 16) : Nat) : Int) := by rw [in_i64 (by omega)]; omega
     rw [e411]
     clear e411
     refine GS.s 4 (run_idxArr (P := Try.prog) (k := .i64) (t := 119) (len := 64) (sz := 1) (b := p3) (o := 0) (j := (i - 16)) (by kernel_rfl) rfl (by omega)) [(0, pt q 0), (1, .slice A 64 C), (4, pt p3 0), (5, vi i), (10, vw (ssg0 ((wsN p i).getD (i - 15) 0))), (11, vw (ssg1 ((wsN p i).getD (i - 2) 0))), (21, vi i), (72, vi i), (75, pt p3 (0 + (i - 16) * 1))] ?_
     refine GS.s 5 (H409.ld (o := (0 + (i - 16) * 1)) (ty := 22) (v := vw ((wsN p i).getD (i - 16) 0)) 1 rfl (by kernel_rfl) (by rw [show (0 + (i - 16) * 1) = (i - 16) by omega]; exact u32s_at (wsP_at (by omega) (by omega)))) [(0, pt q 0), (1, .slice A 64 C), (4, pt p3 0), (5, vi i), (10, vw (ssg0 ((wsN p i).getD (i - 15) 0))), (11, vw (ssg1 ((wsN p i).getD (i - 2) 0))), (21, vi i), (72, vi i), (76, vw ((wsN p i).getD (i - 16) 0))] ?_
     refine GS.r 9 4 [(0, pt q 0), (1, .slice A 64 C), (4, pt p3 0), (11, vw (ssg1 ((wsN p i).getD (i - 2) 0))), (21, vi i), (72, vi i), (78, lw (IntKind.u32.wrap (((((wsN p i).getD (i - 16) 0) : Nat) : Int) + (((ssg0 ((wsN p i).getD (i - 15) 0)) : Nat) : Int)))), (80, li (IntKind.i64.wrap ((i : Int) - 7)))] ?_
     have e412 : (IntKind.u32.wrap (((((wsN p i).getD (i - 16) 0) : Nat) : Int) + (((ssg0 ((wsN p i).getD (i - 15) 0)) : Nat) : Int))) = (((((wsN p i).getD (i - 16) 0) + (ssg0 ((wsN p i).getD (i - 15) 0))) % W32 : Nat) : Int) := w_add _ _
     have e413 : (IntKind.i64.wrap ((i : Int) - 7)) = (((i - 7) : Nat) : Int) := by rw [in_i64 (by omega)]; omega
     rw [e412, e413]
     clear e412 e413
     refine GS.s 10 (run_idxArr (P := Try.prog) (k := .i64) (t := 119) (len := 64) (sz := 1) (b := p3) (o := 0) (j := (i - 7)) (by kernel_rfl) rfl (by omega)) [(0, pt q 0), (1, .slice A 64 C), (4, pt p3 0), (11, vw (ssg1 ((wsN p i).getD (i - 2) 0))), (21, vi i), (72, vi i), (78, vw ((((wsN p i).getD (i - 16) 0) + (ssg0 ((wsN p i).getD (i - 15) 0))) % W32)), (81, pt p3 (0 + (i - 7) * 1))] ?_
     refine GS.s 11 (H409.ld (o := (0 + (i - 7) * 1)) (ty := 22) (v := vw ((wsN p i).getD (i - 7) 0)) 1 rfl (by kernel_rfl) (by rw [show (0 + (i - 7) * 1) = (i - 7) by omega]; exact u32s_at (wsP_at (by omega) (by omega)))) [(0, pt q 0), (1, .slice A 64 C), (4, pt p3 0), (11, vw (ssg1 ((wsN p i).getD (i - 2) 0))), (21, vi i), (72, vi i), (78, vw ((((wsN p i).getD (i - 16) 0) + (ssg0 ((wsN p i).getD (i - 15) 0))) % W32)), (82, vw ((wsN p i).getD (i - 7) 0))] ?_
     refine GS.r 14 3 [(0, pt q 0), (1, .slice A 64 C), (4, pt p3 0), (21, vi i), (72, vi i), (85, lw (IntKind.u32.wrap ((IntKind.u32.wrap ((((((wsN p i).getD (i - 16) 0) + (ssg0 ((wsN p i).getD (i - 15) 0))) % W32 : Nat) : Int) + ((((wsN p i).getD (i - 7) 0) : Nat) : Int))) + (((ssg1 ((wsN p i).getD (i - 2) 0)) : Nat) : Int))))] ?_
     have e414 : (IntKind.u32.wrap ((((((wsN p i).getD (i - 16) 0) + (ssg0 ((wsN p i).getD (i - 15) 0))) % W32 : Nat) : Int) + ((((wsN p i).getD (i - 7) 0) : Nat) : Int))) = (((((wsN p i).getD (i - 16) 0) + (ssg0 ((wsN p i).getD (i - 15) 0)) + ((wsN p i).getD (i - 7) 0)) % W32 : Nat) : Int) := w_addm _ _
     have e415 : (IntKind.u32.wrap ((((((wsN p i).getD (i - 16) 0) + (ssg0 ((wsN p i).getD (i - 15) 0)) + ((wsN p i).getD (i - 7) 0)) % W32 : Nat) : Int) + (((ssg1 ((wsN p i).getD (i - 2) 0)) : Nat) : Int))) = (((((wsN p i).getD (i - 16) 0) + (ssg0 ((wsN p i).getD (i - 15) 0)) + ((wsN p i).getD (i - 7) 0) + (ssg1 ((wsN p i).getD (i - 2) 0))) % W32 : Nat) : Int) := w_addm _ _
     rw [e414, e415]
     clear e414 e415
     refine GS.s 15 (run_idxArr (P := Try.prog) (k := .i64) (t := 119) (len := 64) (sz := 1) (b := p3) (o := 0) (j := i) (by kernel_rfl) rfl (by omega)) [(0, pt q 0), (1, .slice A 64 C), (4, pt p3 0), (21, vi i), (85, vw ((((wsN p i).getD (i - 16) 0) + (ssg0 ((wsN p i).getD (i - 15) 0)) + ((wsN p i).getD (i - 7) 0) + (ssg1 ((wsN p i).getD (i - 2) 0))) % W32)), (86, pt p3 (0 + i * 1))] ?_
     refine GS.tail rfl ?_
     obtain ⟨w416, r417, H418⟩ := H409.st (P := Try.prog) (o := (0 + i * 1)) (ty := 22) (v := vw ((((wsN p i).getD (i - 16) 0) + (ssg0 ((wsN p i).getD (i - 15) 0)) + ((wsN p i).getD (i - 7) 0) + (ssg1 ((wsN p i).getD (i - 2) 0))) % W32)) 1 rfl (by kernel_rfl) (by rw [u32s_length, wsP_length (by omega)]; omega) rfl
     rw [show (0 + i * 1) = i by omega, u32s_set] at H418
     refine GL.u 16 r417 [(0, pt q 0), (1, .slice A 64 C), (4, pt p3 0), (21, vi i)] ?_
     refine GL.q hK373 ?_
     refine G.region ?_
     refine GL.r 2 2 [(0, pt q 0), (1, .slice A 64 C), (4, pt p3 0), (21, li (IntKind.i64.wrap ((i : Int) + 1)))] ?_
     have e419 : (IntKind.i64.wrap ((i : Int) + 1)) = ((i + 1 : Nat) : Int) := by rw [in_i64 (by omega)]; omega
     rw [e419]
     clear e419
     have H420 : Hp w S [.blk q (c8 s0 s1 s2 s3 s4 s5 s6 s7) 130, .blk p3 (u32s (wsP p (i + 1))) 119] w416 := by rw [← wsP_set (v := ((((wsN p i).getD (i - 16) 0) + (ssg0 ((wsN p i).getD (i - 15) 0)) + ((wsN p i).getD (i - 7) 0) + (ssg1 ((wsN p i).getD (i - 2) 0))) % W32)) (by omega) (by rw [if_neg (by omega)])]; exact H418
     refine GL.fit (ts := [0, 1, 4, 21]) (M' := [(0, pt q 0), (1, .slice A 64 C), (4, pt p3 0), (21, vi (i + 1))]) (by kernel_rfl) ?_
     refine GL.eq (M' := [(0, pt q 0), (1, .slice A 64 C), (4, pt p3 0), (21, vi (i + 1))]) (by rfl) ?_
     exact GL.again (i + 1) [0, 1, 4, 21] rfl (by kernel_rfl) (by show 64 - (i + 1) < 64 - i; omega) ⟨by omega, H420⟩
   · skip
     have hb380f := of_decide_eq_true hb380
     refine G.yes rfl ?_
     refine G.seqK fun K422 hK423 => ?_
     refine G.sr fun K424 hK425 => ?_
     refine GL.r 6 6 [(0, pt q 0), (1, .slice A 64 C), (4, pt p3 0), (5, vi i), (21, vi i), (26, .slice A 64 C), (28, li (IntKind.i64.wrap (4 * (i : Int)))), (31, li (IntKind.i64.wrap ((IntKind.i64.wrap (4 * (i : Int))) + 4)))] ?_
     have e426 : (IntKind.i64.wrap (4 * (i : Int))) = ((4 * i : Nat) : Int) := by rw [in_i64 (by omega)]; omega
     have e427 : (IntKind.i64.wrap (((4 * i : Nat) : Int) + 4)) = (((4 * i) + 4 : Nat) : Int) := by rw [in_i64 (by omega)]; omega
     rw [e426, e427]
     clear e426 e427
     refine GL.s 7 (run_sliceN (P := Try.prog) (t := 38) (len := 64) (A := A) (k1 := .i64) (k2 := .i64) (cap := C) (l := 4 * i) (h := (4 * i) + 4) (n := 4) (by kernel_rfl) rfl (by omega) _) [(0, pt q 0), (1, .slice A 64 C), (4, pt p3 0), (5, vi i), (21, vi i), (32, .slice (if C = (4 * i) then A else Option.map (fun x => Addr.add x (4 * i)) A) 4 (C - 4 * i))] ?_
     refine GL.r 9 2 [(0, pt q 0), (1, .slice A 64 C), (4, pt p3 0), (5, vi i), (21, vi i), (32, .slice (if C = (4 * i) then A else Option.map (fun x => Addr.add x (4 * i)) A) 4 (C - 4 * i)), (33, li 4), (34, li 0)] ?_
     refine GL.q hK425 ?_
     refine G.block ?_
     have H428 : Hp w S [.blk q (c8 s0 s1 s2 s3 s4 s5 s6 s7) 130, .blk p3 (u32s (List.set (wsP p i) i (beF p (4 * i) 0))) 119] w11 := by rw [show beF p (4 * i) 0 = 0 from rfl, wsP_none (by omega)]; exact H13
     refine G.fit [0, 1, 4, 5, 21, 32, 33, 34] (M' := [(0, pt q 0), (1, .slice A 64 C), (4, pt p3 0), (5, vi i), (21, vi i), (32, .slice (if C = (4 * i) then A else Option.map (fun x => Addr.add x (4 * i)) A) 4 (C - 4 * i)), (33, li 4), (34, li 0)]) (by kernel_rfl) ?_
     refine G.loop (X := Nat) (fun k => [(0, pt q 0), (1, .slice A 64 C), (4, pt p3 0), (5, vi i), (21, vi i), (32, .slice (if C = (4 * i) then A else Option.map (fun x => Addr.add x (4 * i)) A) 4 (C - 4 * i)), (33, li 4), (34, vi k)]) (fun k w_ => (k ≤ 4) ∧ Hp w S [.blk q (c8 s0 s1 s2 s3 s4 s5 s6 s7) 130, .blk p3 (u32s (List.set (wsP p i) i (beF p (4 * i) k))) 119] w_) (fun k => 4 - k) 0 [0, 1, 4, 5, 21, 32, 33, 34] (by kernel_rfl) ⟨by omega, H428⟩ ?_
     rintro k w429 ⟨hi430, H431⟩
     refine G.eq (M' := [(0, pt q 0), (1, .slice A 64 C), (4, pt p3 0), (5, vi i), (21, vi i), (32, .slice (if C = (4 * i) then A else Option.map (fun x => Addr.add x (4 * i)) A) 4 (C - 4 * i)), (33, li 4), (34, vi k)]) rfl ?_
     have hk4 := hi430
     refine G.sr fun K432 hK433 => ?_
     refine GL.r 1 1 [(0, pt q 0), (1, .slice A 64 C), (4, pt p3 0), (5, vi i), (21, vi i), (32, .slice (if C = (4 * i) then A else Option.map (fun x => Addr.add x (4 * i)) A) 4 (C - 4 * i)), (33, li 4), (34, vi k), (35, .bool (decide ((k : Int) < 4)))] ?_
     refine GL.q hK433 ?_
     refine G.seqK fun K434 hK435 => ?_
     cases hb436 : (decide ((k : Int) < 4))
     · skip
       have hb436f := of_decide_eq_false hb436
       refine G.no rfl ?_
       refine G.exitK hK423 (fun _ _ h => h) ?_
       refine G.exitK hK373 (fun _ _ h => h) ?_
       refine G.region ?_
       refine GL.r 2 2 [(0, pt q 0), (1, .slice A 64 C), (4, pt p3 0), (21, li (IntKind.i64.wrap ((i : Int) + 1)))] ?_
       have e437 : (IntKind.i64.wrap ((i : Int) + 1)) = ((i + 1 : Nat) : Int) := by rw [in_i64 (by omega)]; omega
       rw [e437]
       clear e437
       have H438 : Hp w S [.blk q (c8 s0 s1 s2 s3 s4 s5 s6 s7) 130, .blk p3 (u32s (wsP p (i + 1))) 119] w429 := by rw [← wsP_set (v := (beF p (4 * i) k)) (by omega) (by rw [if_pos (by omega), show k = 4 by omega])]; exact H431
       refine GL.fit (ts := [0, 1, 4, 21]) (M' := [(0, pt q 0), (1, .slice A 64 C), (4, pt p3 0), (21, vi (i + 1))]) (by kernel_rfl) ?_
       refine GL.eq (M' := [(0, pt q 0), (1, .slice A 64 C), (4, pt p3 0), (21, vi (i + 1))]) (by rfl) ?_
       exact GL.again (i + 1) [0, 1, 4, 21] rfl (by kernel_rfl) (by show 64 - (i + 1) < 64 - i; omega) ⟨by omega, H438⟩
     · skip
       have hb436f := of_decide_eq_true hb436
       refine G.yes rfl ?_
       refine G.skipK hK435 (fun _ _ h => h) ?_
       refine G.seqK fun K440 hK441 => ?_
       refine G.block ?_
       refine G.sr fun K442 hK443 => ?_
       refine GL.s 1 (run_idxRd (P := Try.prog) (k := .i64) (t := 38) (A := (if C = (4 * i) then A else Option.map (fun x => Addr.add x (4 * i)) A)) (len := 4) (cap := (C - 4 * i)) (j := k) (by kernel_rfl) rfl (RdS.cut8 (cap := C) (hx.hp H431) (4 * i) (4 * i + 4) (cs := ((p.take (4 * i + 4)).drop (4 * i))) (by omega) rfl) (by rw [by8_length]; rw [List.length_drop, List.length_take]; omega) (by omega)) [(0, pt q 0), (1, .slice A 64 C), (4, pt p3 0), (5, vi i), (21, vi i), (32, .slice (if C = (4 * i) then A else Option.map (fun x => Addr.add x (4 * i)) A) 4 (C - 4 * i)), (33, li 4), (34, vi k), (36, .pointer (Option.map (fun x => Addr.add x k) (if C = (4 * i) then A else Option.map (fun x => Addr.add x (4 * i)) A)))] ?_
       refine GL.s 2 (run_ldRd (P := Try.prog) (ty := 5) (A := (if C = (4 * i) then A else Option.map (fun x => Addr.add x (4 * i)) A)) (j := k) (v := .int .u8 ((((p.take (4 * i + 4)).drop (4 * i)).getD k 0).toNat : Int)) (by kernel_rfl) (RdS.cut8 (cap := C) (hx.hp H431) (4 * i) (4 * i + 4) (cs := ((p.take (4 * i + 4)).drop (4 * i))) (by omega) rfl) (by8_at (getD8 (by rw [List.length_drop, List.length_take]; omega)))) [(0, pt q 0), (1, .slice A 64 C), (4, pt p3 0), (5, vi i), (21, vi i), (32, .slice (if C = (4 * i) then A else Option.map (fun x => Addr.add x (4 * i)) A) 4 (C - 4 * i)), (33, li 4), (34, vi k), (37, lb ((((p.take (4 * i + 4)).drop (4 * i)).getD k 0).toNat : Int))] ?_
       refine GL.r 3 1 [(0, pt q 0), (1, .slice A 64 C), (4, pt p3 0), (5, vi i), (7, lb ((((p.take (4 * i + 4)).drop (4 * i)).getD k 0).toNat : Int)), (21, vi i), (32, .slice (if C = (4 * i) then A else Option.map (fun x => Addr.add x (4 * i)) A) 4 (C - 4 * i)), (33, li 4), (34, vi k)] ?_
       refine GL.q hK443 ?_
       refine G.region ?_
       refine GL.r 2 2 [(0, pt q 0), (1, .slice A 64 C), (4, pt p3 0), (5, vi i), (7, lb ((((p.take (4 * i + 4)).drop (4 * i)).getD k 0).toNat : Int)), (21, vi i), (32, .slice (if C = (4 * i) then A else Option.map (fun x => Addr.add x (4 * i)) A) 4 (C - 4 * i)), (33, li 4), (34, vi k), (38, vi i), (39, vi i)] ?_
       refine GL.s 3 (run_idxArr (P := Try.prog) (k := .i64) (t := 119) (len := 64) (sz := 1) (b := p3) (o := 0) (j := i) (by kernel_rfl) rfl (by omega)) [(0, pt q 0), (1, .slice A 64 C), (4, pt p3 0), (5, vi i), (7, lb ((((p.take (4 * i + 4)).drop (4 * i)).getD k 0).toNat : Int)), (21, vi i), (32, .slice (if C = (4 * i) then A else Option.map (fun x => Addr.add x (4 * i)) A) 4 (C - 4 * i)), (33, li 4), (34, vi k), (38, vi i), (40, pt p3 (0 + i * 1))] ?_
       have hbk : (beF p (4 * i) k) < 16777216 := Nat.lt_of_lt_of_le (beF_lt p (4 * i) k) (Nat.pow_le_pow_right (n := 256) (by decide) (show k ≤ 3 by omega))
       refine GL.s 4 (H431.ld (o := (0 + i * 1)) (ty := 22) (v := vw (beF p (4 * i) k)) 1 rfl (by kernel_rfl) (by rw [show (0 + i * 1) = i by omega]; exact u32s_at (wsP_put (by omega)))) [(0, pt q 0), (1, .slice A 64 C), (4, pt p3 0), (5, vi i), (7, lb ((((p.take (4 * i + 4)).drop (4 * i)).getD k 0).toNat : Int)), (21, vi i), (32, .slice (if C = (4 * i) then A else Option.map (fun x => Addr.add x (4 * i)) A) 4 (C - 4 * i)), (33, li 4), (34, vi k), (38, vi i), (41, vw (beF p (4 * i) k))] ?_
       refine GL.r 8 4 [(0, pt q 0), (1, .slice A 64 C), (4, pt p3 0), (5, vi i), (21, vi i), (32, .slice (if C = (4 * i) then A else Option.map (fun x => Addr.add x (4 * i)) A) 4 (C - 4 * i)), (33, li 4), (34, vi k), (38, vi i), (45, lw (Go.bits .or .u32 (IntKind.u32.wrap ((((beF p (4 * i) k) : Nat) : Int) * 2 ^ 8)) (IntKind.u32.wrap ((((p.take (4 * i + 4)).drop (4 * i)).getD k 0).toNat : Int))))] ?_
       have e444 : (IntKind.u32.wrap ((((beF p (4 * i) k) : Nat) : Int) * 2 ^ 8)) = ((((beF p (4 * i) k) * 256) : Nat) : Int) := w_shl8 hbk
       have e445 : (IntKind.u32.wrap ((((p.take (4 * i + 4)).drop (4 * i)).getD k 0).toNat : Int)) = ((((p.take (4 * i + 4)).drop (4 * i)).getD k 0).toNat : Int) := u8_up_u32 _
       have e446 : (Go.bits .or .u32 ((((beF p (4 * i) k) * 256) : Nat) : Int) ((((p.take (4 * i + 4)).drop (4 * i)).getD k 0).toNat : Int)) = (((((beF p (4 * i) k) * 256) + ((((p.take (4 * i + 4)).drop (4 * i)).getD k 0).toNat)) : Nat) : Int) := w_orbyte hbk (UInt8.toNat_lt _)
       rw [e444, e445, e446]
       clear e444 e445 e446
       refine GL.s 9 (run_idxArr (P := Try.prog) (k := .i64) (t := 119) (len := 64) (sz := 1) (b := p3) (o := 0) (j := i) (by kernel_rfl) rfl (by omega)) [(0, pt q 0), (1, .slice A 64 C), (4, pt p3 0), (5, vi i), (21, vi i), (32, .slice (if C = (4 * i) then A else Option.map (fun x => Addr.add x (4 * i)) A) 4 (C - 4 * i)), (33, li 4), (34, vi k), (45, vw (((beF p (4 * i) k) * 256) + ((((p.take (4 * i + 4)).drop (4 * i)).getD k 0).toNat))), (46, pt p3 (0 + i * 1))] ?_
       obtain ⟨w447, r448, H449⟩ := H431.st (P := Try.prog) (o := (0 + i * 1)) (ty := 22) (v := vw (((beF p (4 * i) k) * 256) + ((((p.take (4 * i + 4)).drop (4 * i)).getD k 0).toNat))) 1 rfl (by kernel_rfl) (by rw [u32s_length, List.length_set, wsP_length (by omega)]; omega) rfl
       rw [show (0 + i * 1) = i by omega, u32s_set, List.set_set] at H449
       refine GL.u 10 r448 [(0, pt q 0), (1, .slice A 64 C), (4, pt p3 0), (5, vi i), (21, vi i), (32, .slice (if C = (4 * i) then A else Option.map (fun x => Addr.add x (4 * i)) A) 4 (C - 4 * i)), (33, li 4), (34, vi k)] ?_
       refine GL.q hK441 ?_
       refine G.region ?_
       refine GL.r 2 2 [(0, pt q 0), (1, .slice A 64 C), (4, pt p3 0), (5, vi i), (21, vi i), (32, .slice (if C = (4 * i) then A else Option.map (fun x => Addr.add x (4 * i)) A) 4 (C - 4 * i)), (33, li 4), (34, li (IntKind.i64.wrap ((k : Int) + 1)))] ?_
       have e450 : (IntKind.i64.wrap ((k : Int) + 1)) = ((k + 1 : Nat) : Int) := by rw [in_i64 (by omega)]; omega
       rw [e450]
       clear e450
       have H451 : Hp w S [.blk q (c8 s0 s1 s2 s3 s4 s5 s6 s7) 130, .blk p3 (u32s (List.set (wsP p i) i (beF p (4 * i) (k + 1)))) 119] w447 := by rw [beF, ← cut_getD (p := p) (l := 4 * i) (n := 4) (k := k) (by omega)]; exact H449
       refine GL.fit (ts := [0, 1, 4, 5, 21, 32, 33, 34]) (M' := [(0, pt q 0), (1, .slice A 64 C), (4, pt p3 0), (5, vi i), (21, vi i), (32, .slice (if C = (4 * i) then A else Option.map (fun x => Addr.add x (4 * i)) A) 4 (C - 4 * i)), (33, li 4), (34, vi (k + 1))]) (by kernel_rfl) ?_
       refine GL.eq (M' := [(0, pt q 0), (1, .slice A 64 C), (4, pt p3 0), (5, vi i), (21, vi i), (32, .slice (if C = (4 * i) then A else Option.map (fun x => Addr.add x (4 * i)) A) 4 (C - 4 * i)), (33, li 4), (34, vi (k + 1))]) (by rfl) ?_
       exact GL.again (k + 1) [0, 1, 4, 5, 21, 32, 33, 34] rfl (by kernel_rfl) (by show 4 - (k + 1) < 4 - k; omega) ⟨by omega, H451⟩
end Go.Proofs.Ytcedmbdahbdmaaa
set_option maxRecDepth 100000
namespace Go.Proofs.Ytcedmbdahbdmaaa
open Go.RowKit
theorem v8c_at {s : V8} {j : Nat} (h : j < 8) : (v8c s)[j]? = some (.int .u32 ((at8 s j : Nat) : Int)) := by
 obtain ⟨a, b, c, d, e, f, g, x⟩ := s
 rcases (by omega : j = 0 ∨ j = 1 ∨ j = 2 ∨ j = 3 ∨ j = 4 ∨ j = 5 ∨ j = 6 ∨ j = 7) with rfl | rfl | rfl | rfl | rfl | rfl | rfl | rfl <;> rfl
def bsP (F : Nat → UInt8) (n i : Nat) : List UInt8 := (List.range i).map F ++ List.replicate (n - i) 0
theorem bsP_length {F : Nat → UInt8} {n i : Nat} (h : i ≤ n) : (bsP F n i).length = n := by
 rw [bsP, List.length_append, List.length_map, List.length_range, List.length_replicate]
 omega
theorem bsP_set {F : Nat → UInt8} {n i : Nat} {v : UInt8} (h : i < n) (hv : v = F i) : (bsP F n i).set i v = bsP F n (i + 1) := by
 subst hv
 unfold bsP
 have hl : ((List.range i).map F).length = i := by rw [List.length_map, List.length_range]
 rw [List.set_append_right _ _ (by rw [hl]; exact Nat.le_refl _), hl, Nat.sub_self, show n - i = (n - (i + 1)) + 1 by omega, List.replicate_succ, List.set_cons_zero, List.range_succ, List.map_append, List.append_assoc]
 rfl
theorem bsP_all (F : Nat → UInt8) (n : Nat) : bsP F n n = (List.range n).map F := by rw [bsP, Nat.sub_self]; exact List.append_nil _
def outB (s : V8) (i : Nat) : UInt8 := UInt8.ofNat (at8 s (i / 4) / 2 ^ (24 - 8 * (i % 4)))
theorem outF_length (s : V8) : (outF s).length = 32 := by rw [outF, List.length_map, List.length_range]
theorem sha_length (b : List UInt8) : (sha b).length = 32 := outF_length _
theorem w_shl3 {n : Nat} (h : n * 8 < K) : IntKind.u64.wrap ((n : Int) * 2 ^ 3) = ((n * 8 : Nat) : Int) := by
 simp only [K] at h
 rw [IntKind.wrap_u64]
 omega
theorem sub_whole {cs : List Value} {m : Nat} (h : cs.length = m) : (cs.drop 0).take m = cs := by rw [List.drop_zero, List.take_of_length_le (Nat.le_of_eq h)]
theorem RdO.chunk {w : World} {S : List Nat} {A : Option Addr} {bs : List UInt8} (h : RdO w S A (by8 bs)) (l n : Nat) (hl : l < bs.length) : RdO w S (A.map (fun x => Addr.add x l)) (by8 ((bs.drop l).take n)) := by
 intro W hs hk
 have e := (h W hs hk).drop8 (cap := bs.length) l (Nat.le_refl _) rfl
 rw [if_neg (by omega)] at e
 exact e.take8 n rfl
theorem run_slice3N {P : Program} {t len cap : Nat} {A : Option Addr} {k1 k2 k3 : IntKind} {l h n : Nat} (ht : slcOf P t = some 1) (hn : h = l + n) (h0 : 0 < n) (hh : h ≤ cap) (w : World) :
   (Instr.sliceAt t (.slice A len cap) (some (.int k1 (l : Int))) (some (.int k2 (h : Int))) (some (.int k3 (h : Int)))).run P w = .ok (.slice (A.map (fun x => Addr.add x l)) n n) w := by
 have e := run_slice3 (P := P) (w := w) (t := t) (len := len) (cap := cap) (A := A) (k1 := k1) (k2 := k2) (k3 := k3) (l := l) (h := h) (m := h) ht (by omega) (Nat.le_refl _) hh
 rw [show h - l = n by omega, if_neg (by omega)] at e
 exact e
theorem Chunk_calls (A : Option Addr) (n c : Nat) (w : World) : Calls Try.prog 74 #[.slice A n c, .int .i64 64] w fun e w' => ∃ B D, e = .returned (.func (.func 78) #[] #[.pointer (some ⟨B, 0, none⟩), .pointer (some ⟨D, 0, none⟩)]) ∧ Hp w [] [.blk B [.slice A n c] 38, .blk D [.int .i64 64] 3] w' := by
 refine calls_G (args := [.slice A n c, li 64]) Try.func74 rfl Try.ntmps74 rfl ?_
 intro Q0 hRet hNor hPan
 have H := Hp.start w
 refine G.sr fun K1 hK2 => ?_
 obtain ⟨p3, w4, r5, H6⟩ := H.box (P := Try.prog) 38 [.slice A n c] (.slice A n c) rfl
 refine GL.s 1 (r5) [(1, li 64), (2, pt p3 0)] ?_
 obtain ⟨p7, w8, r9, H10⟩ := H6.box (P := Try.prog) 3 [li 64] (li 64) rfl
 refine GL.s 2 (r9) [(2, pt p3 0), (3, pt p7 0)] ?_
 refine GL.r 3 1 [(2, pt p3 0), (3, pt p7 0)] ?_
 refine GL.q hK2 ?_
 refine G.seqK fun K11 hK12 => ?_
 refine G.sr fun K13 hK14 => ?_
 refine GL.s 1 (H10.ld (o := 0) (ty := 3) (v := .int .i64 64) 1 rfl (by kernel_rfl) rfl) [(2, pt p3 0), (3, pt p7 0), (5, li 64)] ?_
 refine GL.r 2 1 [(2, pt p3 0), (3, pt p7 0), (6, .bool false)] ?_
 refine GL.q hK14 ?_
 refine G.no rfl ?_
 refine G.skipK hK12 (fun _ _ h => h) ?_
 refine G.sr fun K15 hK16 => ?_
 refine GL.r 2 2 [(4, .func (.func 78) #[] #[pt p3 0, pt p7 0])] ?_
 refine GL.q hK16 ?_
 refine G.ret fun F_ hF_ hM_ => hRet _ _ (bodyPost_1 rfl (RV.tmp rfl) ?_ F_ hF_ hM_)
 exact ⟨_, _, rfl, H10⟩
theorem Chunk_iter (M n : Nat) (hn : n = 64 * M) (hM : M ≤ 1000000) (A : Option Addr) (c : Nat) (hc : n ≤ c) (B D : Nat) : Iter Try.prog 78 #[pt B 0, pt D 0] M (fun k => #[.slice (Option.map (fun x => Addr.add x (64 * k)) A) 64 64]) (fun W => W.cell? ⟨B, 0, none⟩ = some (.slice A n c) ∧ W.cell? ⟨D, 0, none⟩ = some (.int .i64 64)) := by
 intro l J Jx hRd hst hy w h0
 rw [show (#[Value.func (.yield l) #[] #[]] ++ #[pt B 0, pt D 0] : Array Value) = #[.func (.yield l) #[] #[], pt B 0, pt D 0] by simp]
 refine calls_R (args := [.func (.yield l) #[] #[], pt B 0, pt D 0]) Try.func78 rfl Try.ntmps78 rfl ?_
 intro Q0 hRet hNor
 have H := Hp.start w
 refine RG.seqK fun K1 hK2 => ?_
 refine RG.region (by kernel_rfl) ?_
 refine RL.run (j := 1) 1 [0, 1, 2, 4] [(0, .func (.yield l) #[] #[]), (1, pt B 0), (2, pt D 0), (4, li 0)] (by kernel_rfl) rfl ?_
 refine RL.k rfl hK2 (fun _ _ h => h) ?_
 refine RG.block ?_
 refine RG.fit [0, 1, 2, 4] (M' := [(0, .func (.yield l) #[] #[]), (1, pt B 0), (2, pt D 0), (4, li 0)]) (by kernel_rfl) ?_
 refine RG.eq (M' := [(0, .func (.yield l) #[] #[]), (1, pt B 0), (2, pt D 0), (4, vi (64 * 0))]) (by rfl) ?_
 refine RG.loop (X := Nat) (fun k => [(0, .func (.yield l) #[] #[]), (1, pt B 0), (2, pt D 0), (4, vi (64 * k))]) (fun k w_ => k ≤ M ∧ J k w_) (fun k => M - k) 0 [0, 1, 2, 4] (by kernel_rfl) ⟨Nat.zero_le _, h0⟩ ?_
 rintro k wk ⟨hkN, hJk⟩
 have H3 := Hp.start wk
 refine RG.eq (M' := [(0, .func (.yield l) #[] #[]), (1, pt B 0), (2, pt D 0), (4, vi (64 * k))]) rfl ?_
 refine RG.seqK fun K4 hK5 => ?_
 refine RG.seqK fun K6 hK7 => ?_
 refine RG.region (by kernel_rfl) ?_
 refine RL.run (j := 1) 1 [0, 1, 2, 4, 6] [(0, .func (.yield l) #[] #[]), (1, pt B 0), (2, pt D 0), (4, vi (64 * k)), (6, vi (64 * k))] (by kernel_rfl) rfl ?_
 refine RL.sem (j := 2) (run_ld1 (P := Try.prog) (ty := 38) (a := ⟨B, 0, none⟩) (v := .slice A n c) (by kernel_rfl) (H3.oldCell (hRd _ _ hJk).1)) [0, 1, 2, 4, 6, 7] [(0, .func (.yield l) #[] #[]), (1, pt B 0), (2, pt D 0), (4, vi (64 * k)), (6, vi (64 * k)), (7, .slice A n c)] (by kernel_rfl) (by kernel_rfl) rfl ?_
 refine RL.run (j := 4) 2 [0, 1, 2, 4, 9] [(0, .func (.yield l) #[] #[]), (1, pt B 0), (2, pt D 0), (4, vi (64 * k)), (9, .bool (decide ((((64 * k) : Nat) : Int) < (n : Int))))] (by kernel_rfl) rfl ?_
 refine RL.k rfl hK7 (fun _ _ h => h) ?_
 cases hb8 : (decide ((((64 * k) : Nat) : Int) < (n : Int)))
 · skip
   have hb8f := of_decide_eq_false hb8
   refine RG.no rfl ?_
   refine fun F_ hF_ hM_ => wpIn_exit ?_
   refine hNor _ _ (postM_0 rfl  ?_ F_ hF_ hM_)
   exact ⟨⟨_, rfl⟩, .inl (by first | exact hJk | (have hkk : k = M := by omega); rw [← hkk]; exact hJk)⟩
 · skip
   have hb8f := of_decide_eq_true hb8
   refine RG.yes rfl ?_
   refine RG.skipK hK5 (fun _ _ h => h) ?_
   refine RG.seqK fun K9 hK10 => ?_
   refine RG.block ?_
   refine RG.seqK fun K11 hK12 => ?_
   refine RG.draw H3 (by kernel_rfl) (by kernel_rfl) ?_
   refine GQ.s 1 (fun w_ H_ => run_ld1 (P := Try.prog) (ty := 3) (a := ⟨D, 0, none⟩) (v := .int .i64 64) (by kernel_rfl) (H_.oldCell (hRd _ _ hJk).2)) [(0, .func (.yield l) #[] #[]), (1, pt B 0), (2, pt D 0), (4, vi (64 * k)), (13, li 64)] ?_
   refine GQ.s 2 (fun w_ H_ => run_ld1 (P := Try.prog) (ty := 38) (a := ⟨B, 0, none⟩) (v := .slice A n c) (by kernel_rfl) (H_.oldCell (hRd _ _ hJk).1)) [(0, .func (.yield l) #[] #[]), (1, pt B 0), (2, pt D 0), (4, vi (64 * k)), (13, li 64), (14, .slice A n c)] ?_
   refine GQ.r 3 1 [(0, .func (.yield l) #[] #[]), (1, pt B 0), (2, pt D 0), (4, vi (64 * k)), (13, li 64), (14, .slice A n c), (15, vi (64 * k))] ?_
   refine GQ.s 4 (fun w_ H_ => run_sliceSl (P := Try.prog) (lo := some (vi (64 * k))) (hi := none) (t := 38) (len := n) (cap := c) (A := A) (l := (64 * k)) (h := n) (by kernel_rfl) (Or.inr ⟨_, _, rfl, rfl⟩) (Or.inl ⟨rfl, rfl⟩) (by omega) (by omega)) [(0, .func (.yield l) #[] #[]), (1, pt B 0), (2, pt D 0), (4, vi (64 * k)), (13, li 64), (16, .slice (if c = (64 * k) then A else Option.map (fun x => Addr.add x (64 * k)) A) (n - (64 * k)) (c - (64 * k)))] ?_
   refine GQ.r 7 3 [(0, .func (.yield l) #[] #[]), (1, pt B 0), (2, pt D 0), (4, vi (64 * k)), (5, li (if (((n - (64 * k)) : Nat) : Int) < (64 : Int) then (((n - (64 * k)) : Nat) : Int) else (64 : Int)))] ?_
   have e13 : (if (((n - (64 * k)) : Nat) : Int) < (64 : Int) then (((n - (64 * k)) : Nat) : Int) else (64 : Int)) = 64 := by rw [if_neg (by omega)]
   refine GQ.eq (M' := [(0, .func (.yield l) #[] #[]), (1, pt B 0), (2, pt D 0), (4, vi (64 * k)), (5, li 64)]) (by rw [e13]) ?_
   clear e13
   refine GQ.kR rfl hK12 (fun _ _ h => h) (fun w14 H15 => ?_)
   refine RG.seqK fun K16 hK17 => ?_
   refine RG.region (by kernel_rfl) ?_
   refine RL.run (j := 1) 1 [0, 1, 2, 4, 5, 19] [(0, .func (.yield l) #[] #[]), (1, pt B 0), (2, pt D 0), (4, vi (64 * k)), (5, li 64), (19, .func (.yield l) #[] #[])] (by kernel_rfl) rfl ?_
   refine RL.sem (j := 2) (run_ld1 (P := Try.prog) (ty := 38) (a := ⟨B, 0, none⟩) (v := .slice A n c) (by kernel_rfl) (H15.oldCell (hRd _ _ hJk).1)) [0, 1, 2, 4, 5, 19, 20] [(0, .func (.yield l) #[] #[]), (1, pt B 0), (2, pt D 0), (4, vi (64 * k)), (5, li 64), (19, .func (.yield l) #[] #[]), (20, .slice A n c)] (by kernel_rfl) (by kernel_rfl) rfl ?_
   refine RL.run (j := 9) 7 [0, 1, 2, 4, 19, 20, 21, 24, 27] [(0, .func (.yield l) #[] #[]), (1, pt B 0), (2, pt D 0), (4, vi (64 * k)), (19, .func (.yield l) #[] #[]), (20, .slice A n c), (21, vi (64 * k)), (24, li (IntKind.i64.wrap ((((64 * k) : Nat) : Int) + 64))), (27, li (IntKind.i64.wrap ((((64 * k) : Nat) : Int) + 64)))] (by kernel_rfl) rfl ?_
   have e18 : (IntKind.i64.wrap ((((64 * k) : Nat) : Int) + 64)) = (((64 * k) + 64 : Nat) : Int) := by rw [in_i64 (by omega)]; omega
   rw [e18]
   clear e18
   refine RL.sem (j := 10) (run_slice3N (P := Try.prog) (t := 38) (len := n) (cap := c) (A := A) (k1 := .i64) (k2 := .i64) (k3 := .i64) (l := 64 * k) (h := (64 * k) + 64) (n := 64) (by kernel_rfl) (by omega) (by decide) (by omega) _) [0, 1, 2, 4, 19, 28] [(0, .func (.yield l) #[] #[]), (1, pt B 0), (2, pt D 0), (4, vi (64 * k)), (19, .func (.yield l) #[] #[]), (28, .slice (Option.map (fun x => Addr.add x (64 * k)) A) 64 64)] (by kernel_rfl) (by kernel_rfl) rfl ?_
   refine RL.yield (j := 11) (hy k _ (by omega) (hst k _ _ hJk H15.below)) (by kernel_rfl) rfl (fun e_ w19 hR23 => ?_)
   obtain ⟨b20, rfl, hyt21, hyf22⟩ := yield_cases hR23
   have H24 := Hp.start w19
   refine ⟨_, rfl, [0, 1, 2, 4, 29], [(0, .func (.yield l) #[] #[]), (1, pt B 0), (2, pt D 0), (4, vi (64 * k)), (29, .bool b20)], by kernel_rfl, ?_⟩
   refine RL.run (j := 12) 1 [0, 1, 2, 4, 30] [(0, .func (.yield l) #[] #[]), (1, pt B 0), (2, pt D 0), (4, vi (64 * k)), (30, .bool (!b20))] (by kernel_rfl) rfl ?_
   refine RL.k rfl hK17 (fun _ _ h => h) ?_
   rcases (Bool.eq_false_or_eq_true b20).symm with hb25 | hb25
   · skip
     refine RG.eq (M' := [(0, .func (.yield l) #[] #[]), (1, pt B 0), (2, pt D 0), (4, vi (64 * k)), (30, .bool true)]) (by first | (rw [hb25]; done) | (rw [hb25]; rfl)) ?_
     have hJ26 := hyf22 hb25
     refine RG.yes rfl ?_
     refine RG.ret ?_
     intro F_ hF_ hM_
     refine hRet _ _ (postM_0 rfl  ?_ F_ hF_ hM_)
     exact ⟨⟨_, rfl⟩, .inr hJ26⟩
   · skip
     refine RG.eq (M' := [(0, .func (.yield l) #[] #[]), (1, pt B 0), (2, pt D 0), (4, vi (64 * k)), (30, .bool false)]) (by first | (rw [hb25]; done) | (rw [hb25]; rfl)) ?_
     have hJ27 := hyt21 hb25
     refine RG.no rfl ?_
     refine RG.skipK hK10 (fun _ _ h => h) ?_
     refine RG.region (by kernel_rfl) ?_
     refine RL.run (j := 1) 1 [0, 1, 2, 10] [(0, .func (.yield l) #[] #[]), (1, pt B 0), (2, pt D 0), (10, vi (64 * k))] (by kernel_rfl) rfl ?_
     refine RL.sem (j := 2) (run_ld1 (P := Try.prog) (ty := 3) (a := ⟨D, 0, none⟩) (v := .int .i64 64) (by kernel_rfl) (H24.oldCell (hRd _ _ hJ27).2)) [0, 1, 2, 10, 11] [(0, .func (.yield l) #[] #[]), (1, pt B 0), (2, pt D 0), (10, vi (64 * k)), (11, li 64)] (by kernel_rfl) (by kernel_rfl) rfl ?_
     refine RL.run (j := 4) 2 [0, 1, 2, 4] [(0, .func (.yield l) #[] #[]), (1, pt B 0), (2, pt D 0), (4, li (IntKind.i64.wrap ((((64 * k) : Nat) : Int) + 64)))] (by kernel_rfl) rfl ?_
     have e28 : (IntKind.i64.wrap ((((64 * k) : Nat) : Int) + 64)) = (((64 * k) + 64 : Nat) : Int) := by rw [in_i64 (by omega)]; omega
     rw [e28]
     clear e28
     refine RL.fit (ts := [0, 1, 2, 4]) (M' := [(0, .func (.yield l) #[] #[]), (1, pt B 0), (2, pt D 0), (4, vi ((64 * k) + 64))]) (by kernel_rfl) ?_
     refine RL.eq (M' := [(0, .func (.yield l) #[] #[]), (1, pt B 0), (2, pt D 0), (4, vi (64 * (k + 1)))]) (by rw [show 64 * k + 64 = 64 * (k + 1) by omega]) ?_
     exact RL.again (k + 1) [0, 1, 2, 4] rfl (by kernel_rfl) (by show M - (k + 1) < M - k; omega) ⟨by omega, hJ27⟩
theorem Sum_calls (A : Option Addr) (n c : Nat) (b : List UInt8) (w : World) (hx : RdS w A (by8 b)) (hn : n = b.length) (hb : b.length ≤ 1000000) : Calls Try.prog 68 #[.slice A n c] w fun e w' => e = .returned (.agg (by8 (sha b)).toArray) ∧ Hp w [] [] w' := by
 subst hn
 refine calls_R (args := [.slice A b.length c]) Try.func68 rfl Try.ntmps68 rfl ?_
 intro Q0 hRet hNor
 have H := Hp.start w
 refine RG.seqK fun K1 hK2 => ?_
 refine RG.region (by kernel_rfl) ?_
 obtain ⟨p3, w4, r5, H6⟩ := H.alloc (P := Try.prog) 51 (by8 (bsP (outB (blocks (padM b) ((padM b).length / 64))) 32 0)) (by kernel_rfl)
 refine RL.sem (j := 1) (r5) [0, 2] [(0, .slice A b.length c), (2, pt p3 0)] (by kernel_rfl) (by kernel_rfl) rfl ?_
 refine RL.k rfl hK2 (fun _ _ h => h) ?_
 refine RG.seqK fun K7 hK8 => ?_
 refine RG.region (by kernel_rfl) ?_
 refine RL.run (j := 1) 1 [0, 2, 9] [(0, .slice A b.length c), (2, pt p3 0), (9, .agg #[lw 1779033703, lw 3144134277, lw 1013904242, lw 2773480762, lw 1359893119, lw 2600822924, lw 528734635, lw 1541459225])] (by kernel_rfl) rfl ?_
 obtain ⟨p9, w10, r11, H12⟩ := H6.alloc (P := Try.prog) 130 [lw 0, lw 0, lw 0, lw 0, lw 0, lw 0, lw 0, lw 0] (by kernel_rfl)
 refine RL.sem (j := 2) (r11) [0, 2, 3, 9] [(0, .slice A b.length c), (2, pt p3 0), (3, pt p9 0), (9, .agg #[lw 1779033703, lw 3144134277, lw 1013904242, lw 2773480762, lw 1359893119, lw 2600822924, lw 528734635, lw 1541459225])] (by kernel_rfl) (by kernel_rfl) rfl ?_
 obtain ⟨w13, r14, H15⟩ := H12.stA (P := Try.prog) (o := 0) (vs := [lw 1779033703, lw 3144134277, lw 1013904242, lw 2773480762, lw 1359893119, lw 2600822924, lw 528734635, lw 1541459225]) (ty := 130) (m := 8) 1 rfl (by kernel_rfl) rfl (by simp) (by simp [Value.oneCell'])
 refine RL.semU (j := 3) r14 [0, 2, 3] [(0, .slice A b.length c), (2, pt p3 0), (3, pt p9 0)] (by kernel_rfl) rfl rfl rfl ?_
 refine RL.k rfl hK8 (fun _ _ h => h) ?_
 refine RG.seqK fun K16 hK17 => ?_
 refine RG.region (by kernel_rfl) ?_
 refine RL.run (j := 1) 1 [0, 2, 3, 10] [(0, .slice A b.length c), (2, pt p3 0), (3, pt p9 0), (10, .slice A b.length c)] (by kernel_rfl) rfl ?_
 refine RL.call (j := 2) (Clone_calls b A b.length c w13 (hx.hp H15) (rfl) (by omega)) (by kernel_rfl) rfl (fun e_ w22 hR => ?_)
 obtain ⟨A18, c19, rfl, H21⟩ := hR
 have H20 : Hp w [] [.blk p3 (by8 (bsP (outB (blocks (padM b) ((padM b).length / 64))) 32 0)) 51, .blk p9 [lw 1779033703, lw 3144134277, lw 1013904242, lw 2773480762, lw 1359893119, lw 2600822924, lw 528734635, lw 1541459225] 130, .row A18 b.length c19 5 1 (by8 b)] w22 := H15.callNew H21
 refine ⟨_, rfl, [0, 2, 3, 11], [(0, .slice A b.length c), (2, pt p3 0), (3, pt p9 0), (11, .slice A18 b.length c19)], by kernel_rfl, ?_⟩
 obtain ⟨p23, w24, r25, H26⟩ := H20.madeRow (P := Try.prog) (Instr.buildSlice 38 1 #[(0, lb 128)]) (fun b_ => .slice (some ⟨b_, 0, none⟩) 1 1) [lb 128] 5 1 1 1 (by kernel_rfl) (by decide) (by decide) rfl
 refine RL.sem (j := 3) (r25) [0, 2, 3, 11, 12] [(0, .slice A b.length c), (2, pt p3 0), (3, pt p9 0), (11, .slice A18 b.length c19), (12, .slice (some ⟨p23, 0, none⟩) 1 1)] (by kernel_rfl) (by kernel_rfl) rfl ?_
 obtain ⟨A27, c28, w29, r30, H31⟩ := H26.append (P := Try.prog) (e := 5) (sz := 1) (by_ := 1) (n := b.length) (c := c19) (m := 1) (d := 1) (t := 38) (ty := 38) (xs := by8 b) (news := by8 ([128] : List UInt8)) 2 rfl (by kernel_rfl) (H26.rdRow 3 rfl) (by first | (simp [by8_length]; done) | (rw [by8_length]; omega) | (rw [by8_length, putB_length])) (by8_one _) (by omega) (by simp only [maxLen]; omega)
 rw [← by8_append] at H31
 refine RL.sem (j := 4) (r30) [0, 2, 3, 13] [(0, .slice A b.length c), (2, pt p3 0), (3, pt p9 0), (13, .slice A27 (b.length + 1) c28)] (by kernel_rfl) (by kernel_rfl) rfl ?_
 refine RL.run (j := 5) 1 [0, 2, 3, 4] [(0, .slice A b.length c), (2, pt p3 0), (3, pt p9 0), (4, .slice A27 (b.length + 1) c28)] (by kernel_rfl) rfl ?_
 refine RL.k rfl hK17 (fun _ _ h => h) ?_
 refine RG.seqK fun K32 hK33 => ?_
 refine RG.block ?_
 have H34 : Hp w [] [.blk p3 (by8 (bsP (outB (blocks (padM b) ((padM b).length / 64))) 32 0)) 51, .blk p9 [lw 1779033703, lw 3144134277, lw 1013904242, lw 2773480762, lw 1359893119, lw 2600822924, lw 528734635, lw 1541459225] 130, .row A27 (b.length + 1 + 0) c28 5 1 (by8 (b ++ [128] ++ List.replicate 0 0)), .row (some ⟨p23, 0, none⟩) 1 1 5 1 (by8 ([128] : List UInt8))] w29 := by rw [show List.replicate 0 (0 : UInt8) = [] from rfl, List.append_nil]; exact H31
 refine RG.fit [0, 2, 3, 4] (M' := [(0, .slice A b.length c), (2, pt p3 0), (3, pt p9 0), (4, .slice A27 (b.length + 1 + 0) c28)]) (by kernel_rfl) ?_
 refine RG.loop (X := Nat × Option Addr × Nat) (fun ⟨j, B_, C_⟩ => [(0, .slice A b.length c), (2, pt p3 0), (3, pt p9 0), (4, .slice B_ (b.length + 1 + j) C_)]) (fun ⟨j, B_, C_⟩ w_ => (j ≤ padZ b.length) ∧ Hp w [] [.blk p3 (by8 (bsP (outB (blocks (padM b) ((padM b).length / 64))) 32 0)) 51, .blk p9 [lw 1779033703, lw 3144134277, lw 1013904242, lw 2773480762, lw 1359893119, lw 2600822924, lw 528734635, lw 1541459225] 130, .row B_ (b.length + 1 + j) C_ 5 1 (by8 (b ++ [128] ++ List.replicate j 0)), .row (some ⟨p23, 0, none⟩) 1 1 5 1 (by8 ([128] : List UInt8))] w_) (fun ⟨j, B_, C_⟩ => padZ b.length - j) ⟨0, A27, c28⟩ [0, 2, 3, 4] (by kernel_rfl) ⟨by omega, H34⟩ ?_
 rintro ⟨j, B_, C_⟩ w35 ⟨hi36, H37⟩
 refine RG.eq (M' := [(0, .slice A b.length c), (2, pt p3 0), (3, pt p9 0), (4, .slice B_ (b.length + 1 + j) C_)]) rfl ?_
 have hj := hi36
 have hz : padZ b.length = (119 - b.length % 64) % 64 := rfl
 refine RG.seqK fun K38 hK39 => ?_
 refine RG.seqK fun K40 hK41 => ?_
 refine RG.region (by kernel_rfl) ?_
 refine RL.run (j := 4) 4 [0, 2, 3, 4, 17] [(0, .slice A b.length c), (2, pt p3 0), (3, pt p9 0), (4, .slice B_ (b.length + 1 + j) C_), (17, .bool ((Int.tmod (((b.length + 1 + j) : Nat) : Int) 64) != 56))] (by kernel_rfl) rfl ?_
 have e42 : (Int.tmod (((b.length + 1 + j) : Nat) : Int) 64) = (((b.length + 1 + j) % 64 : Nat) : Int) := n_rem _ 64
 rw [e42]
 clear e42
 refine RL.k rfl hK41 (fun _ _ h => h) ?_
 cases hb43 : ((((b.length + 1 + j) % 64 : Nat) : Int) != 56)
 · skip
   have hb43f : (((b.length + 1 + j) % 64 : Nat) : Int) = 56 := bne_eq_false_iff_eq.1 hb43
   refine RG.no rfl ?_
   refine RG.exitK hK33 (fun _ _ h => h) ?_
   refine RG.seqK fun K44 hK45 => ?_
   refine RG.seqK fun K46 hK47 => ?_
   refine RG.region (by kernel_rfl) ?_
   refine RL.run (j := 1) 1 [0, 2, 3, 4, 5] [(0, .slice A b.length c), (2, pt p3 0), (3, pt p9 0), (4, .slice B_ (b.length + 1 + j) C_), (5, li 56)] (by kernel_rfl) rfl ?_
   refine RL.k rfl hK47 (fun _ _ h => h) ?_
   refine RG.block ?_
   obtain rfl : j = padZ b.length := by omega
   have H48 : Hp w [] [.blk p3 (by8 (bsP (outB (blocks (padM b) ((padM b).length / 64))) 32 0)) 51, .blk p9 [lw 1779033703, lw 3144134277, lw 1013904242, lw 2773480762, lw 1359893119, lw 2600822924, lw 528734635, lw 1541459225] 130, .row B_ (b.length + 1 + padZ b.length + 0) C_ 5 1 (by8 ((b ++ [128] ++ List.replicate (padZ b.length) 0) ++ lenB b.length 0)), .row (some ⟨p23, 0, none⟩) 1 1 5 1 (by8 ([128] : List UInt8))] w35 := by rw [show lenB b.length 0 = [] from rfl, List.append_nil]; exact H37
   refine RG.fit [0, 2, 3, 4, 5] (M' := [(0, .slice A b.length c), (2, pt p3 0), (3, pt p9 0), (4, .slice B_ (b.length + 1 + padZ b.length + 0) C_), (5, li 56)]) (by kernel_rfl) ?_
   refine RG.eq (M' := [(0, .slice A b.length c), (2, pt p3 0), (3, pt p9 0), (4, .slice B_ (b.length + 1 + padZ b.length + 0) C_), (5, li (56 - 8 * ((0 : Nat) : Int)))]) (by rfl) ?_
   refine RG.loop (X := Nat × Option Addr × Nat) (fun ⟨k, B_, C_⟩ => [(0, .slice A b.length c), (2, pt p3 0), (3, pt p9 0), (4, .slice B_ (b.length + 1 + padZ b.length + k) C_), (5, li (56 - 8 * (k : Int)))]) (fun ⟨k, B_, C_⟩ w_ => (k ≤ 8) ∧ Hp w [] [.blk p3 (by8 (bsP (outB (blocks (padM b) ((padM b).length / 64))) 32 0)) 51, .blk p9 [lw 1779033703, lw 3144134277, lw 1013904242, lw 2773480762, lw 1359893119, lw 2600822924, lw 528734635, lw 1541459225] 130, .row B_ (b.length + 1 + padZ b.length + k) C_ 5 1 (by8 ((b ++ [128] ++ List.replicate (padZ b.length) 0) ++ lenB b.length k)), .row (some ⟨p23, 0, none⟩) 1 1 5 1 (by8 ([128] : List UInt8))] w_) (fun ⟨k, B_, C_⟩ => 8 - k) ⟨0, B_, C_⟩ [0, 2, 3, 4, 5] (by kernel_rfl) ⟨by omega, H48⟩ ?_
   rintro ⟨k, B_, C_⟩ w49 ⟨hi50, H51⟩
   refine RG.eq (M' := [(0, .slice A b.length c), (2, pt p3 0), (3, pt p9 0), (4, .slice B_ (b.length + 1 + padZ b.length + k) C_), (5, li (56 - 8 * (k : Int)))]) rfl ?_
   have hk8 := hi50
   refine RG.seqK fun K52 hK53 => ?_
   refine RG.seqK fun K54 hK55 => ?_
   refine RG.region (by kernel_rfl) ?_
   refine RL.run (j := 2) 2 [0, 2, 3, 4, 5, 22] [(0, .slice A b.length c), (2, pt p3 0), (3, pt p9 0), (4, .slice B_ (b.length + 1 + padZ b.length + k) C_), (5, li (56 - 8 * (k : Int))), (22, .bool (decide (0 ≤ (56 - 8 * (k : Int)))))] (by kernel_rfl) rfl ?_
   refine RL.k rfl hK55 (fun _ _ h => h) ?_
   cases hb56 : (decide (0 ≤ (56 - 8 * (k : Int))))
   · skip
     have hb56f := of_decide_eq_false hb56
     refine RG.no rfl ?_
     refine RG.exitK hK45 (fun _ _ h => h) ?_
     refine RG.seqK fun K57 hK58 => ?_
     refine RG.seqK fun K59 hK60 => ?_
     refine RG.region (by kernel_rfl) ?_
     refine RL.run (j := 1) 1 [2, 3, 35] [(2, pt p3 0), (3, pt p9 0), (35, .slice B_ (b.length + 1 + padZ b.length + k) C_)] (by kernel_rfl) rfl ?_
     refine RL.call (j := 2) (Chunk_calls B_ (b.length + 1 + padZ b.length + k) C_ w49) (by kernel_rfl) rfl (fun e_ w65 hR => ?_)
     obtain ⟨B61, D62, rfl, H64⟩ := hR
     have H63 : Hp w [] [.blk p3 (by8 (bsP (outB (blocks (padM b) ((padM b).length / 64))) 32 0)) 51, .blk p9 [lw 1779033703, lw 3144134277, lw 1013904242, lw 2773480762, lw 1359893119, lw 2600822924, lw 528734635, lw 1541459225] 130, .row B_ (b.length + 1 + padZ b.length + k) C_ 5 1 (by8 ((b ++ [128] ++ List.replicate (padZ b.length) 0) ++ lenB b.length k)), .row (some ⟨p23, 0, none⟩) 1 1 5 1 (by8 ([128] : List UInt8)), .blk B61 [.slice B_ (b.length + 1 + padZ b.length + k) C_] 38, .blk D62 [li 64] 3] w65 := H51.callNew H64
     refine ⟨_, rfl, [2, 3, 36], [(2, pt p3 0), (3, pt p9 0), (36, .func (.func 78) #[] #[pt B61 0, pt D62 0])], by kernel_rfl, ?_⟩
     refine RL.k rfl hK60 (fun _ _ h => h) ?_
     refine RG.block ?_
     obtain rfl : k = 8 := by omega
     have H66 : Hp w [] [.blk p3 (by8 (bsP (outB (blocks (padM b) ((padM b).length / 64))) 32 0)) 51, .blk p9 (v8c (blocks (padM b) 0)) 130, .row B_ (b.length + 1 + padZ b.length + 8) C_ 5 1 (by8 (padM b)), .row (some ⟨p23, 0, none⟩) 1 1 5 1 (by8 ([128] : List UInt8)), .blk B61 [.slice B_ (b.length + 1 + padZ b.length + 8) C_] 38, .blk D62 [li 64] 3] w65 := H63
     have hMp : (padM b).length = b.length + 1 + padZ b.length + 8 := by unfold padM; simp only [List.length_append, List.length_replicate, lenB_length, List.length_cons, List.length_nil]
     have hML : b.length + 1 + padZ b.length + 8 = 64 * ((padM b).length / 64) := by have e1 := padM_length b; omega
     have hMc := (H66.rowLe 2 rfl).1
     have hz2 : padZ b.length < 64 := Nat.mod_lt _ (by decide)
     refine RG.fit [2, 3, 36] (M' := [(2, pt p3 0), (3, pt p9 0), (36, .func (.func 78) #[] #[pt B61 0, pt D62 0])]) (by kernel_rfl) ?_
     refine RG.range H66 (gf := 78) (lb := #[pt B61 0, pt D62 0]) rfl (enters_of Try.func78 (by kernel_rfl) rfl) (Xt := Unit) (fun k u_ => True) (fun k u_ => [.blk p3 (by8 (bsP (outB (blocks (padM b) ((padM b).length / 64))) 32 0)) 51, .blk p9 (v8c (blocks (padM b) k)) 130, .row B_ (b.length + 1 + padZ b.length + 8) C_ 5 1 (by8 (padM b)), .row (some ⟨p23, 0, none⟩) 1 1 5 1 (by8 ([128] : List UInt8)), .blk B61 [.slice B_ (b.length + 1 + padZ b.length + 8) C_] 38, .blk D62 [li 64] 3]) (fun u_ => False) (fun u_ => []) (N := ((padM b).length / 64)) (enc := fun k => #[.slice (Option.map (fun x => Addr.add x (64 * k)) B_) 64 64]) (Chunk_iter ((padM b).length / 64) (b.length + 1 + padZ b.length + 8) hML (by omega) B_ C_ hMc B61 D62) (fun _ => rfl) () trivial rfl (fun k u E W hx HW => ⟨(HW.blkAt 4 rfl).cell 0, (HW.blkAt 5 rfl).cell 0⟩) (fun k => [(37, .slice (Option.map (fun x => Addr.add x (64 * k)) B_) 64 64), (2, pt p3 0), (3, pt p9 0), (36, .func (.func 78) #[] #[pt B61 0, pt D62 0])]) (fun _ => rfl) ?_ ?_ ?_
     · skip
       rintro D70 l71 oR72 oB73 k u_ w67 K74 hk75 hx68 H69 hK76
       have hk9 := hk75
       refine RG.region (by kernel_rfl) ?_
       refine RL.run (j := 1) 1 [3, 6] [(3, pt p9 0), (6, .slice (Option.map (fun x => Addr.add x (64 * k)) B_) 64 64)] (by kernel_rfl) rfl ?_
       refine RL.done rfl (fun F_ hF_ hM_ => hK76 F_ _ [.blk p3 (by8 (bsP (outB (blocks (padM b) ((padM b).length / 64))) 32 0)) 51, .blk p9 (v8c (blocks (padM b) k)) 130, .row B_ (b.length + 1 + padZ b.length + 8) C_ 5 1 (by8 (padM b)), .row (some ⟨p23, 0, none⟩) 1 1 5 1 (by8 ([128] : List UInt8)), .blk B61 [.slice B_ (b.length + 1 + padZ b.length + 8) C_] 38, .blk D62 [li 64] 3] _ hF_ hM_ H69 ?_)
       intro w77 H78
       refine RG.block ?_
       refine RG.region (by kernel_rfl) ?_
       refine RL.run (j := 1) 1 [3, 38] [(3, pt p9 0), (38, .slice (Option.map (fun x => Addr.add x (64 * k)) B_) 64 64)] (by kernel_rfl) rfl ?_
       have H79 := (Hp.reorder (L' := [.blk p9 (v8c (blocks (padM b) k)) 130, .blk p3 (by8 (bsP (outB (blocks (padM b) ((padM b).length / 64))) 32 0)) 51, .row B_ (b.length + 1 + padZ b.length + 8) C_ 5 1 (by8 (padM b)), .row (some ⟨p23, 0, none⟩) 1 1 5 1 (by8 ([128] : List UInt8)), .blk B61 [.slice B_ (b.length + 1 + padZ b.length + 8) C_] 38, .blk D62 [li 64] 3, .obj D70 DF, .obj l71 oB73]) H78 (List.Perm.trans (List.Perm.swap _ _ _) (List.Perm.refl _)))
       refine RL.call (j := 2) (Block_calls (ids [.blk p9 (v8c (blocks (padM b) k)) 130]) p9 (Option.map (fun x => Addr.add x (64 * k)) B_) 64 ((List.drop (64 * k) (padM b)).take 64) (blocks (padM b) k) w77 (Hp.startL (A := [.blk p9 (v8c (blocks (padM b) k)) 130]) (B := [.blk p3 (by8 (bsP (outB (blocks (padM b) ((padM b).length / 64))) 32 0)) 51, .row B_ (b.length + 1 + padZ b.length + 8) C_ 5 1 (by8 (padM b)), .row (some ⟨p23, 0, none⟩) 1 1 5 1 (by8 ([128] : List UInt8)), .blk B61 [.slice B_ (b.length + 1 + padZ b.length + 8) C_] 38, .blk D62 [li 64] 3, .obj D70 DF, .obj l71 oB73]) H79) (ok8_blocks _ _) (RdO.chunk (RdO.row (A' := [.blk p9 (v8c (blocks (padM b) k)) 130]) (B' := [.blk p3 (by8 (bsP (outB (blocks (padM b) ((padM b).length / 64))) 32 0)) 51, .row B_ (b.length + 1 + padZ b.length + 8) C_ 5 1 (by8 (padM b)), .row (some ⟨p23, 0, none⟩) 1 1 5 1 (by8 ([128] : List UInt8)), .blk B61 [.slice B_ (b.length + 1 + padZ b.length + 8) C_] 38, .blk D62 [li 64] 3, .obj D70 DF, .obj l71 oB73]) H79 1 rfl) (64 * k) 64 (by omega)) (by rw [List.length_take, List.length_drop]; omega) (Nat.le_refl _)) (by kernel_rfl) rfl (fun e_ w80 hR => ?_)
       obtain ⟨rfl, H82⟩ := hR
       have H81 : Hp w [] [.blk p9 (v8c (blocks (padM b) (k + 1))) 130, .blk p3 (by8 (bsP (outB (blocks (padM b) ((padM b).length / 64))) 32 0)) 51, .row B_ (b.length + 1 + padZ b.length + 8) C_ 5 1 (by8 (padM b)), .row (some ⟨p23, 0, none⟩) 1 1 5 1 (by8 ([128] : List UInt8)), .blk B61 [.slice B_ (b.length + 1 + padZ b.length + 8) C_] 38, .blk D62 [li 64] 3, .obj D70 DF, .obj l71 oB73] w80 := Hp.callL (A := [.blk p9 (v8c (blocks (padM b) k)) 130]) (B := [.blk p3 (by8 (bsP (outB (blocks (padM b) ((padM b).length / 64))) 32 0)) 51, .row B_ (b.length + 1 + padZ b.length + 8) C_ 5 1 (by8 (padM b)), .row (some ⟨p23, 0, none⟩) 1 1 5 1 (by8 ([128] : List UInt8)), .blk B61 [.slice B_ (b.length + 1 + padZ b.length + 8) C_] 38, .blk D62 [li 64] 3, .obj D70 DF, .obj l71 oB73]) H79 H82
       refine ⟨_, rfl, [], [], by kernel_rfl, ?_⟩
       have H83 := (Hp.reorder (L' := [.blk p3 (by8 (bsP (outB (blocks (padM b) ((padM b).length / 64))) 32 0)) 51, .blk p9 (v8c (blocks (padM b) (k + 1))) 130, .row B_ (b.length + 1 + padZ b.length + 8) C_ 5 1 (by8 (padM b)), .row (some ⟨p23, 0, none⟩) 1 1 5 1 (by8 ([128] : List UInt8)), .blk B61 [.slice B_ (b.length + 1 + padZ b.length + 8) C_] 38, .blk D62 [li 64] 3, .obj D70 DF, .obj l71 oB73]) H81 (List.Perm.trans (List.Perm.swap _ _ _) (List.Perm.refl _)))
       exact RL.done rfl (fun F_ hF_ hM_ => ⟨(), trivial, H83⟩)
     · skip
       rintro D87 u_ w84 hx85 H86
       refine RG.kk hK58 (fun _ _ h => h) ?_
       refine RG.seqK fun K88 hK89 => ?_
       refine RG.region (by kernel_rfl) ?_
       obtain ⟨p90, w91, r92, H93⟩ := H86.alloc (P := Try.prog) 51 (by8 (bsP (outB (blocks (padM b) ((padM b).length / 64))) 32 0)) (by kernel_rfl)
       refine RL.sem (j := 1) (r92) [2, 3, 7] [(2, pt p3 0), (3, pt p9 0), (7, pt p90 0)] (by kernel_rfl) (by kernel_rfl) rfl ?_
       refine RL.k rfl hK89 (fun _ _ h => h) ?_
       refine RG.seqK fun K94 hK95 => ?_
       refine RG.seqK fun K96 hK97 => ?_
       refine RG.region (by kernel_rfl) ?_
       refine RL.run (j := 1) 1 [2, 3, 7, 40] [(2, pt p3 0), (3, pt p9 0), (7, pt p90 0), (40, li 0)] (by kernel_rfl) rfl ?_
       refine RL.k rfl hK97 (fun _ _ h => h) ?_
       refine RG.block ?_
       refine RG.fit [2, 3, 7, 40] (M' := [(2, pt p3 0), (3, pt p9 0), (7, pt p90 0), (40, li 0)]) (by kernel_rfl) ?_
       refine RG.loop (X := Nat) (fun i => [(2, pt p3 0), (3, pt p9 0), (7, pt p90 0), (40, vi i)]) (fun i w_ => (i ≤ 32) ∧ Hp w [] [.blk p3 (by8 (bsP (outB (blocks (padM b) ((padM b).length / 64))) 32 0)) 51, .blk p9 (v8c (blocks (padM b) ((padM b).length / 64))) 130, .row B_ (b.length + 1 + padZ b.length + 8) C_ 5 1 (by8 (padM b)), .row (some ⟨p23, 0, none⟩) 1 1 5 1 (by8 ([128] : List UInt8)), .blk B61 [.slice B_ (b.length + 1 + padZ b.length + 8) C_] 38, .blk D62 [li 64] 3, .obj D87 DF, .blk p90 (by8 (bsP (outB (blocks (padM b) ((padM b).length / 64))) 32 i)) 51] w_) (fun i => 32 - i) 0 [2, 3, 7, 40] (by kernel_rfl) ⟨by omega, H93⟩ ?_
       rintro i w98 ⟨hi99, H100⟩
       refine RG.eq (M' := [(2, pt p3 0), (3, pt p9 0), (7, pt p90 0), (40, vi i)]) rfl ?_
       have hi32 := hi99
       refine RG.seqK fun K101 hK102 => ?_
       refine RG.region (by kernel_rfl) ?_
       refine RL.run (j := 1) 1 [2, 3, 7, 40, 41] [(2, pt p3 0), (3, pt p9 0), (7, pt p90 0), (40, vi i), (41, .bool (decide ((i : Int) < 32)))] (by kernel_rfl) rfl ?_
       refine RL.k rfl hK102 (fun _ _ h => h) ?_
       refine RG.seqK fun K103 hK104 => ?_
       cases hb105 : (decide ((i : Int) < 32))
       · skip
         have hb105f := of_decide_eq_false hb105
         refine RG.no rfl ?_
         refine RG.exitK hK95 (fun _ _ h => h) ?_
         refine RG.seqK fun K106 hK107 => ?_
         refine RG.region (by kernel_rfl) ?_
         refine RL.sem (j := 1) (H100.ldA (o := 0) (ty := 51) (m := 32) (sub := by8 (bsP (outB (blocks (padM b) ((padM b).length / 64))) 32 i)) 7 rfl (by kernel_rfl) (sub_whole (by rw [by8_length, bsP_length (by omega)])) (by rw [by8_length, bsP_length (by omega)])) [2, 56] [(2, pt p3 0), (56, .agg (by8 (bsP (outB (blocks (padM b) ((padM b).length / 64))) 32 i)).toArray)] (by kernel_rfl) (by kernel_rfl) rfl ?_
         obtain ⟨w108, r109, H110⟩ := H100.stA (P := Try.prog) (o := 0) (vs := by8 (bsP (outB (blocks (padM b) ((padM b).length / 64))) 32 i)) (ty := 51) (m := 32) 0 rfl (by kernel_rfl) (by rw [by8_length, bsP_length (by omega)]) (Nat.le_of_eq (by rw [Nat.zero_add]; exact ((show (by8 (bsP (outB (blocks (padM b) ((padM b).length / 64))) 32 0)).length = 32 from by rw [by8_length, bsP_length (by omega)])).symm)) (by8_one _)
         rw [st_whole (by rw [by8_length, bsP_length (by omega)])] at H110
         refine RL.semU (j := 2) r109 [2] [(2, pt p3 0)] (by kernel_rfl) rfl rfl rfl ?_
         refine RL.k rfl hK107 (fun _ _ h => h) ?_
         refine RG.ret ?_
         have hD111 := H110.objAt 6 rfl
         have H112 : Hp w [] [.blk p3 (by8 (bsP (outB (blocks (padM b) ((padM b).length / 64))) 32 i)) 51, .blk p9 (v8c (blocks (padM b) ((padM b).length / 64))) 130, .row B_ (b.length + 1 + padZ b.length + 8) C_ 5 1 (by8 (padM b)), .row (some ⟨p23, 0, none⟩) 1 1 5 1 (by8 ([128] : List UInt8)), .blk B61 [.slice B_ (b.length + 1 + padZ b.length + 8) C_] 38, .blk D62 [li 64] 3, .obj D87 (.deferred none), .blk p90 (by8 (bsP (outB (blocks (padM b) ((padM b).length / 64))) 32 i)) 51] (World.putObj w108 D87 (.deferred none)) := H110.putObj 6 (.deferred none) rfl
         intro F_ hF_ hM_
         refine hRet _ _ (postK_1 hD111 rfl (RV.cell rfl (H112.ldA (o := 0) (ty := 51) (m := 32) (sub := by8 (bsP (outB (blocks (padM b) ((padM b).length / 64))) 32 i)) 0 rfl (by kernel_rfl) (sub_whole (by rw [by8_length, bsP_length (by omega)])) (by rw [by8_length, bsP_length (by omega)]))) ?_ F_ hF_ hM_)
         rw [show i = 32 by omega, bsP_all]
         exact ⟨rfl, H112.sub (List.nil_sublist _)⟩
       · skip
         have hb105f := of_decide_eq_true hb105
         refine RG.yes rfl ?_
         refine RG.skipK hK104 (fun _ _ h => h) ?_
         refine RG.seqK fun K113 hK114 => ?_
         refine RG.block ?_
         refine RG.seqK fun K115 hK116 => ?_
         refine RG.region (by kernel_rfl) ?_
         refine RL.run (j := 2) 2 [2, 3, 7, 8, 40] [(2, pt p3 0), (3, pt p9 0), (7, pt p90 0), (8, vi i), (40, vi i)] (by kernel_rfl) rfl ?_
         refine RL.k rfl hK116 (fun _ _ h => h) ?_
         refine RG.region (by kernel_rfl) ?_
         refine RL.run (j := 3) 3 [2, 3, 7, 8, 40, 43, 45] [(2, pt p3 0), (3, pt p9 0), (7, pt p90 0), (8, vi i), (40, vi i), (43, vi i), (45, li (IntKind.i64.wrap (Int.tdiv (i : Int) 4)))] (by kernel_rfl) rfl ?_
         have e117 : (IntKind.i64.wrap (Int.tdiv (i : Int) 4)) = ((i / 4 : Nat) : Int) := i_quo 4 (by omega)
         rw [e117]
         clear e117
         refine RL.sem (j := 4) (run_idxArr (P := Try.prog) (k := .i64) (t := 130) (len := 8) (sz := 1) (b := p9) (o := 0) (j := i / 4) (by kernel_rfl) rfl (by omega)) [2, 3, 7, 8, 40, 43, 46] [(2, pt p3 0), (3, pt p9 0), (7, pt p90 0), (8, vi i), (40, vi i), (43, vi i), (46, pt p9 (0 + (i / 4) * 1))] (by kernel_rfl) (by kernel_rfl) rfl ?_
         refine RL.sem (j := 5) (H100.ld (o := (0 + (i / 4) * 1)) (ty := 22) (v := vw (at8 (blocks (padM b) ((padM b).length / 64)) (i / 4))) 1 rfl (by kernel_rfl) (by rw [show (0 + (i / 4) * 1) = (i / 4) by omega]; exact v8c_at (by omega))) [2, 3, 7, 8, 40, 43, 47] [(2, pt p3 0), (3, pt p9 0), (7, pt p90 0), (8, vi i), (40, vi i), (43, vi i), (47, vw (at8 (blocks (padM b) ((padM b).length / 64)) (i / 4)))] (by kernel_rfl) (by kernel_rfl) rfl ?_
         refine RL.run (j := 9) 4 [2, 3, 7, 40, 43, 47, 51] [(2, pt p3 0), (3, pt p9 0), (7, pt p90 0), (40, vi i), (43, vi i), (47, vw (at8 (blocks (padM b) ((padM b).length / 64)) (i / 4))), (51, li (IntKind.i64.wrap (24 - (IntKind.i64.wrap (8 * (Int.tmod (i : Int) 4))))))] (by kernel_rfl) rfl ?_
         have e118 : (Int.tmod (i : Int) 4) = ((i % 4 : Nat) : Int) := n_rem _ 4
         have e119 : (IntKind.i64.wrap (8 * ((i % 4 : Nat) : Int))) = ((8 * (i % 4) : Nat) : Int) := by rw [in_i64 (by omega)]; omega
         have e120 : (IntKind.i64.wrap (24 - ((8 * (i % 4) : Nat) : Int))) = (((24 - 8 * (i % 4)) : Nat) : Int) := by rw [in_i64 (by omega)]; omega
         rw [e118, e119, e120]
         clear e118 e119 e120
         refine RL.sem (j := 10) (run_shr32 (P := Try.prog) (k' := .i64) (t := 22) (a := (at8 (blocks (padM b) ((padM b).length / 64)) (i / 4))) (r := (24 - 8 * (i % 4))) (by omega) _) [2, 3, 7, 40, 43, 52] [(2, pt p3 0), (3, pt p9 0), (7, pt p90 0), (40, vi i), (43, vi i), (52, vw ((at8 (blocks (padM b) ((padM b).length / 64)) (i / 4)) / 2 ^ (24 - 8 * (i % 4))))] (by kernel_rfl) (by kernel_rfl) rfl ?_
         refine RL.run (j := 11) 1 [2, 3, 7, 40, 43, 53] [(2, pt p3 0), (3, pt p9 0), (7, pt p90 0), (40, vi i), (43, vi i), (53, lb (IntKind.u8.wrap ((((at8 (blocks (padM b) ((padM b).length / 64)) (i / 4)) / 2 ^ (24 - 8 * (i % 4))) : Nat) : Int)))] (by kernel_rfl) rfl ?_
         have e121 : (IntKind.u8.wrap ((((at8 (blocks (padM b) ((padM b).length / 64)) (i / 4)) / 2 ^ (24 - 8 * (i % 4))) : Nat) : Int)) = (((UInt8.ofNat ((at8 (blocks (padM b) ((padM b).length / 64)) (i / 4)) / 2 ^ (24 - 8 * (i % 4)))).toNat : Nat) : Int) := n_byte _
         rw [e121]
         clear e121
         refine RL.sem (j := 12) (run_idxArr (P := Try.prog) (k := .i64) (t := 51) (len := 32) (sz := 1) (b := p90) (o := 0) (j := i) (by kernel_rfl) rfl (by omega)) [2, 3, 7, 40, 53, 54] [(2, pt p3 0), (3, pt p9 0), (7, pt p90 0), (40, vi i), (53, lb (((UInt8.ofNat ((at8 (blocks (padM b) ((padM b).length / 64)) (i / 4)) / 2 ^ (24 - 8 * (i % 4)))).toNat : Nat) : Int)), (54, pt p90 (0 + i * 1))] (by kernel_rfl) (by kernel_rfl) rfl ?_
         obtain ⟨w122, r123, H124⟩ := H100.st (P := Try.prog) (o := (0 + i * 1)) (ty := 5) (v := .int .u8 (((UInt8.ofNat ((at8 (blocks (padM b) ((padM b).length / 64)) (i / 4)) / 2 ^ (24 - 8 * (i % 4)))).toNat : Nat) : Int)) 7 rfl (by kernel_rfl) (by rw [by8_length, bsP_length (by omega)]; omega) rfl
         rw [show (0 + i * 1) = i by omega, by8_set] at H124
         refine RL.semU (j := 13) r123 [2, 3, 7, 40] [(2, pt p3 0), (3, pt p9 0), (7, pt p90 0), (40, vi i)] (by kernel_rfl) rfl rfl rfl ?_
         refine RL.k rfl hK114 (fun _ _ h => h) ?_
         refine RG.region (by kernel_rfl) ?_
         refine RL.run (j := 2) 2 [2, 3, 7, 40] [(2, pt p3 0), (3, pt p9 0), (7, pt p90 0), (40, li (IntKind.i64.wrap ((i : Int) + 1)))] (by kernel_rfl) rfl ?_
         have e125 : (IntKind.i64.wrap ((i : Int) + 1)) = ((i + 1 : Nat) : Int) := by rw [in_i64 (by omega)]; omega
         rw [e125]
         clear e125
         have H126 : Hp w [] [.blk p3 (by8 (bsP (outB (blocks (padM b) ((padM b).length / 64))) 32 0)) 51, .blk p9 (v8c (blocks (padM b) ((padM b).length / 64))) 130, .row B_ (b.length + 1 + padZ b.length + 8) C_ 5 1 (by8 (padM b)), .row (some ⟨p23, 0, none⟩) 1 1 5 1 (by8 ([128] : List UInt8)), .blk B61 [.slice B_ (b.length + 1 + padZ b.length + 8) C_] 38, .blk D62 [li 64] 3, .obj D87 DF, .blk p90 (by8 (bsP (outB (blocks (padM b) ((padM b).length / 64))) 32 (i + 1))) 51] w122 := by rw [← bsP_set (F := outB (blocks (padM b) ((padM b).length / 64))) (n := 32) (i := i) (v := (UInt8.ofNat ((at8 (blocks (padM b) ((padM b).length / 64)) (i / 4)) / 2 ^ (24 - 8 * (i % 4))))) (by omega) rfl]; exact H124
         refine RL.fit (ts := [2, 3, 7, 40]) (M' := [(2, pt p3 0), (3, pt p9 0), (7, pt p90 0), (40, vi (i + 1))]) (by kernel_rfl) ?_
         refine RL.eq (M' := [(2, pt p3 0), (3, pt p9 0), (7, pt p90 0), (40, vi (i + 1))]) (by rfl) ?_
         exact RL.again (i + 1) [2, 3, 7, 40] rfl (by kernel_rfl) (by show 32 - (i + 1) < 32 - i; omega) ⟨by omega, H126⟩
     · skip
       rintro D130 u_ w127 hx128 H129
       exact hx128.elim
   · skip
     have hb56f := of_decide_eq_true hb56
     have ei : (56 - 8 * (k : Int)) = ((56 - 8 * k : Nat) : Int) := by omega
     refine RG.eq (M' := [(0, .slice A b.length c), (2, pt p3 0), (3, pt p9 0), (4, .slice B_ (b.length + 1 + padZ b.length + k) C_), (5, vi (56 - 8 * k)), (22, .bool true)]) (by rw [ei]) ?_
     refine RG.yes rfl ?_
     refine RG.skipK hK53 (fun _ _ h => h) ?_
     refine RG.seqK fun K131 hK132 => ?_
     refine RG.block ?_
     refine RG.region (by kernel_rfl) ?_
     refine RL.run (j := 6) 6 [0, 2, 3, 5, 25, 29, 30] [(0, .slice A b.length c), (2, pt p3 0), (3, pt p9 0), (5, vi (56 - 8 * k)), (25, .slice B_ (b.length + 1 + padZ b.length + k) C_), (29, lu (IntKind.u64.wrap ((IntKind.u64.wrap (b.length : Int)) * 2 ^ 3))), (30, vi (56 - 8 * k))] (by kernel_rfl) rfl ?_
     have e133 : (IntKind.u64.wrap (b.length : Int)) = ((b.length : Nat) : Int) := in_u64 (by omega)
     have e134 : (IntKind.u64.wrap (((b.length : Nat) : Int) * 2 ^ 3)) = (((b.length * 8) : Nat) : Int) := w_shl3 (by simp only [K]; omega)
     rw [e133, e134]
     clear e133 e134
     refine RL.sem (j := 7) (run_shr64 (P := Try.prog) (k' := .i64) (t := 31) (a := (b.length * 8)) (r := (56 - 8 * k)) (by omega) _) [0, 2, 3, 5, 25, 31] [(0, .slice A b.length c), (2, pt p3 0), (3, pt p9 0), (5, vi (56 - 8 * k)), (25, .slice B_ (b.length + 1 + padZ b.length + k) C_), (31, vu ((b.length * 8) / 2 ^ (56 - 8 * k)))] (by kernel_rfl) (by kernel_rfl) rfl ?_
     refine RL.run (j := 8) 1 [0, 2, 3, 5, 25, 32] [(0, .slice A b.length c), (2, pt p3 0), (3, pt p9 0), (5, vi (56 - 8 * k)), (25, .slice B_ (b.length + 1 + padZ b.length + k) C_), (32, lb (IntKind.u8.wrap ((((b.length * 8) / 2 ^ (56 - 8 * k)) : Nat) : Int)))] (by kernel_rfl) rfl ?_
     have e135 : (IntKind.u8.wrap ((((b.length * 8) / 2 ^ (56 - 8 * k)) : Nat) : Int)) = (((UInt8.ofNat ((b.length * 8) / 2 ^ (56 - 8 * k))).toNat : Nat) : Int) := n_byte _
     rw [e135]
     clear e135
     obtain ⟨p136, w137, r138, H139⟩ := H51.madeRow (P := Try.prog) (Instr.buildSlice 38 1 #[(0, lb (((UInt8.ofNat ((b.length * 8) / 2 ^ (56 - 8 * k))).toNat : Nat) : Int))]) (fun b_ => .slice (some ⟨b_, 0, none⟩) 1 1) [lb (((UInt8.ofNat ((b.length * 8) / 2 ^ (56 - 8 * k))).toNat : Nat) : Int)] 5 1 1 1 (by kernel_rfl) (by decide) (by decide) rfl
     refine RL.sem (j := 9) (r138) [0, 2, 3, 5, 25, 33] [(0, .slice A b.length c), (2, pt p3 0), (3, pt p9 0), (5, vi (56 - 8 * k)), (25, .slice B_ (b.length + 1 + padZ b.length + k) C_), (33, .slice (some ⟨p136, 0, none⟩) 1 1)] (by kernel_rfl) (by kernel_rfl) rfl ?_
     obtain ⟨A140, c141, w142, r143, H144⟩ := H139.append (P := Try.prog) (e := 5) (sz := 1) (by_ := 1) (n := (b.length + 1 + padZ b.length + k)) (c := C_) (m := 1) (d := 1) (t := 38) (ty := 38) (xs := by8 ((b ++ [128] ++ List.replicate (padZ b.length) 0) ++ lenB b.length k)) (news := by8 ([(UInt8.ofNat ((b.length * 8) / 2 ^ (56 - 8 * k)))] : List UInt8)) 2 rfl (by kernel_rfl) (H139.rdRow 4 rfl) (by first | (simp [by8_length]; done) | (rw [by8_length]; omega) | (rw [by8_length, putB_length])) (by8_one _) (by omega) (by simp only [maxLen]; omega)
     rw [← by8_append] at H144
     refine RL.sem (j := 10) (r143) [0, 2, 3, 5, 34] [(0, .slice A b.length c), (2, pt p3 0), (3, pt p9 0), (5, vi (56 - 8 * k)), (34, .slice A140 ((b.length + 1 + padZ b.length + k) + 1) c141)] (by kernel_rfl) (by kernel_rfl) rfl ?_
     refine RL.run (j := 11) 1 [0, 2, 3, 4, 5] [(0, .slice A b.length c), (2, pt p3 0), (3, pt p9 0), (4, .slice A140 ((b.length + 1 + padZ b.length + k) + 1) c141), (5, vi (56 - 8 * k))] (by kernel_rfl) rfl ?_
     refine RL.k rfl hK132 (fun _ _ h => h) ?_
     refine RG.region (by kernel_rfl) ?_
     refine RL.run (j := 3) 3 [0, 2, 3, 4, 5] [(0, .slice A b.length c), (2, pt p3 0), (3, pt p9 0), (4, .slice A140 ((b.length + 1 + padZ b.length + k) + 1) c141), (5, li (IntKind.i64.wrap ((((56 - 8 * k) : Nat) : Int) - 8)))] (by kernel_rfl) rfl ?_
     have e145 : (IntKind.i64.wrap ((((56 - 8 * k) : Nat) : Int) - 8)) = (48 - 8 * (k : Int)) := by rw [in_i64 (by omega)]; omega
     rw [e145]
     clear e145
     have H146 : Hp w [] [.blk p3 (by8 (bsP (outB (blocks (padM b) ((padM b).length / 64))) 32 0)) 51, .blk p9 [lw 1779033703, lw 3144134277, lw 1013904242, lw 2773480762, lw 1359893119, lw 2600822924, lw 528734635, lw 1541459225] 130, .row A140 ((b.length + 1 + padZ b.length + k) + 1) c141 5 1 (by8 (((b ++ [128] ++ List.replicate (padZ b.length) 0) ++ lenB b.length k) ++ ([(UInt8.ofNat ((b.length * 8) / 2 ^ (56 - 8 * k)))] : List UInt8))), .row (some ⟨p23, 0, none⟩) 1 1 5 1 (by8 ([128] : List UInt8))] w142 := H144.sub (List.Sublist.cons_cons _ (List.Sublist.cons_cons _ (List.Sublist.cons_cons _ (List.Sublist.cons_cons _ (List.Sublist.cons _ (List.Sublist.slnil))))))
     have H147 : Hp w [] [.blk p3 (by8 (bsP (outB (blocks (padM b) ((padM b).length / 64))) 32 0)) 51, .blk p9 [lw 1779033703, lw 3144134277, lw 1013904242, lw 2773480762, lw 1359893119, lw 2600822924, lw 528734635, lw 1541459225] 130, .row A140 (b.length + 1 + padZ b.length + (k + 1)) c141 5 1 (by8 ((b ++ [128] ++ List.replicate (padZ b.length) 0) ++ lenB b.length (k + 1))), .row (some ⟨p23, 0, none⟩) 1 1 5 1 (by8 ([128] : List UInt8))] w142 := by rw [lenB, ← List.append_assoc]; exact H146
     refine RL.fit (ts := [0, 2, 3, 4, 5]) (M' := [(0, .slice A b.length c), (2, pt p3 0), (3, pt p9 0), (4, .slice A140 ((b.length + 1 + padZ b.length + k) + 1) c141), (5, li (48 - 8 * (k : Int)))]) (by kernel_rfl) ?_
     refine RL.eq (M' := [(0, .slice A b.length c), (2, pt p3 0), (3, pt p9 0), (4, .slice A140 (b.length + 1 + padZ b.length + (k + 1)) c141), (5, li (56 - 8 * (((k + 1) : Nat) : Int)))]) (by first | (rw [show (48 - 8 * (k : Int)) = 56 - 8 * ((k + 1 : Nat) : Int) by omega]; done) | (rw [show (48 - 8 * (k : Int)) = 56 - 8 * ((k + 1 : Nat) : Int) by omega]; rfl)) ?_
     exact RL.again ⟨(k + 1), A140, c141⟩ [0, 2, 3, 4, 5] rfl (by kernel_rfl) (by show 8 - (k + 1) < 8 - k; omega) ⟨by omega, H147⟩
 · skip
   have hb43f : (((b.length + 1 + j) % 64 : Nat) : Int) ≠ 56 := bne_iff_ne.1 hb43
   refine RG.yes rfl ?_
   refine RG.skipK hK39 (fun _ _ h => h) ?_
   refine RG.block ?_
   refine RG.region (by kernel_rfl) ?_
   refine RL.run (j := 1) 1 [0, 2, 3, 18] [(0, .slice A b.length c), (2, pt p3 0), (3, pt p9 0), (18, .slice B_ (b.length + 1 + j) C_)] (by kernel_rfl) rfl ?_
   obtain ⟨p148, w149, r150, H151⟩ := H37.madeRow (P := Try.prog) (Instr.buildSlice 38 1 #[(0, lb 0)]) (fun b_ => .slice (some ⟨b_, 0, none⟩) 1 1) [lb 0] 5 1 1 1 (by kernel_rfl) (by decide) (by decide) rfl
   refine RL.sem (j := 2) (r150) [0, 2, 3, 18, 19] [(0, .slice A b.length c), (2, pt p3 0), (3, pt p9 0), (18, .slice B_ (b.length + 1 + j) C_), (19, .slice (some ⟨p148, 0, none⟩) 1 1)] (by kernel_rfl) (by kernel_rfl) rfl ?_
   obtain ⟨A152, c153, w154, r155, H156⟩ := H151.append (P := Try.prog) (e := 5) (sz := 1) (by_ := 1) (n := (b.length + 1 + j)) (c := C_) (m := 1) (d := 1) (t := 38) (ty := 38) (xs := by8 (b ++ [128] ++ List.replicate j 0)) (news := by8 ([0] : List UInt8)) 2 rfl (by kernel_rfl) (H151.rdRow 4 rfl) (by first | (simp [by8_length]; done) | (rw [by8_length]; omega) | (rw [by8_length, putB_length])) (by8_one _) (by omega) (by simp only [maxLen]; omega)
   rw [← by8_append] at H156
   refine RL.sem (j := 3) (r155) [0, 2, 3, 20] [(0, .slice A b.length c), (2, pt p3 0), (3, pt p9 0), (20, .slice A152 ((b.length + 1 + j) + 1) c153)] (by kernel_rfl) (by kernel_rfl) rfl ?_
   refine RL.run (j := 4) 1 [0, 2, 3, 4] [(0, .slice A b.length c), (2, pt p3 0), (3, pt p9 0), (4, .slice A152 ((b.length + 1 + j) + 1) c153)] (by kernel_rfl) rfl ?_
   have H157 : Hp w [] [.blk p3 (by8 (bsP (outB (blocks (padM b) ((padM b).length / 64))) 32 0)) 51, .blk p9 [lw 1779033703, lw 3144134277, lw 1013904242, lw 2773480762, lw 1359893119, lw 2600822924, lw 528734635, lw 1541459225] 130, .row A152 ((b.length + 1 + j) + 1) c153 5 1 (by8 ((b ++ [128] ++ List.replicate j 0) ++ ([0] : List UInt8))), .row (some ⟨p23, 0, none⟩) 1 1 5 1 (by8 ([128] : List UInt8))] w154 := H156.sub (List.Sublist.cons_cons _ (List.Sublist.cons_cons _ (List.Sublist.cons_cons _ (List.Sublist.cons_cons _ (List.Sublist.cons _ (List.Sublist.slnil))))))
   have H158 : Hp w [] [.blk p3 (by8 (bsP (outB (blocks (padM b) ((padM b).length / 64))) 32 0)) 51, .blk p9 [lw 1779033703, lw 3144134277, lw 1013904242, lw 2773480762, lw 1359893119, lw 2600822924, lw 528734635, lw 1541459225] 130, .row A152 (b.length + 1 + (j + 1)) c153 5 1 (by8 (b ++ [128] ++ List.replicate (j + 1) 0)), .row (some ⟨p23, 0, none⟩) 1 1 5 1 (by8 ([128] : List UInt8))] w154 := by rw [List.replicate_succ', ← List.append_assoc]; exact H157
   refine RL.fit (ts := [0, 2, 3, 4]) (M' := [(0, .slice A b.length c), (2, pt p3 0), (3, pt p9 0), (4, .slice A152 ((b.length + 1 + j) + 1) c153)]) (by kernel_rfl) ?_
   refine RL.eq (M' := [(0, .slice A b.length c), (2, pt p3 0), (3, pt p9 0), (4, .slice A152 (b.length + 1 + (j + 1)) c153)]) (by rfl) ?_
   exact RL.againB ⟨(j + 1), A152, c153⟩ [0, 2, 3, 4] rfl (by kernel_rfl) (by show padZ b.length - (j + 1) < padZ b.length - j; omega) ⟨by omega, H158⟩
end Go.Proofs.Ytcedmbdahbdmaaa
set_option maxRecDepth 100000
namespace Go.Proofs.Ytcedmbdahbdmaaa
open Go.RowKit
theorem by8_ints (X : List UInt8) : by8 X = ints .u8 (X.map fun b => (b.toNat : Int)) := by simp [by8, ints]
theorem run_by8_eql {P : Program} {t n : Nat} {x y : Operand} (ht : arrInt P t = some n) (X Y : List UInt8) (hx : X.length = n) (hy : Y.length = n) (w : World) :
   (do eqGuard .eql t x y (.agg (by8 X).toArray) (.agg (by8 Y).toArray); binOp .eql t (.agg (by8 X).toArray) (.agg (by8 Y).toArray) : Sem Value).run P w = .ok (.bool (decide (X = Y))) w := by
 rw [by8_ints, by8_ints, run_arr_eql ht _ _ (by rw [List.length_map]; exact hx) (by rw [List.length_map]; exact hy)]
 have e : ((X.map fun b : UInt8 => (b.toNat : Int)) = Y.map fun b : UInt8 => (b.toNat : Int)) ↔ X = Y := List.map_inj_right (fun x y h => UInt8.toNat_inj.1 (by omega))
 rw [decide_eq_decide.2 e]
theorem Double_calls (A : Option Addr) (n c : Nat) (b : List UInt8) (w : World) (hx : RdS w A (by8 b)) (hn : n = b.length) (hb : b.length ≤ 1000000) : Calls Try.prog 51 #[.slice A n c] w fun e w' => e = .returned (.agg (by8 (sha (sha b))).toArray) ∧ Hp w [] [] w' := by
 subst hn
 refine calls_G (args := [.slice A b.length c]) Try.func51 rfl Try.ntmps51 rfl ?_
 intro Q0 hRet hNor hPan
 have H := Hp.start w
 refine G.sr fun K1 hK2 => ?_
 obtain ⟨p3, w4, r5, H6⟩ := H.alloc (P := Try.prog) 51 (by8 (bsP (fun _ => 0) 32 0)) (by kernel_rfl)
 refine GL.s 1 (r5) [(0, .slice A b.length c), (2, pt p3 0)] ?_
 refine GL.q hK2 ?_
 refine G.sr fun K7 hK8 => ?_
 refine GL.r 1 1 [(2, pt p3 0), (4, .slice A b.length c)] ?_
 refine GL.call (j := 2) (Sum_calls A b.length c b w4 (hx.hp H6) (rfl) (by omega)) (by kernel_rfl) rfl (fun e_ w9 hR => ?_)
 obtain ⟨rfl, H11⟩ := hR
 have H10 : Hp w [] [.blk p3 (by8 (bsP (fun _ => 0) 32 0)) 51] w9 := H6.callNil H11
 refine ⟨_, rfl, [2, 5], [(2, pt p3 0), (5, .agg (by8 (sha b)).toArray)], by kernel_rfl, ?_⟩
 obtain ⟨p12, w13, r14, H15⟩ := H10.alloc (P := Try.prog) 51 (by8 (bsP (fun _ => 0) 32 0)) (by kernel_rfl)
 refine GL.s 3 (r14) [(2, pt p3 0), (3, pt p12 0), (5, .agg (by8 (sha b)).toArray)] ?_
 obtain ⟨w16, r17, H18⟩ := H15.stA (P := Try.prog) (o := 0) (vs := by8 (sha b)) (ty := 51) (m := 32) 1 rfl (by kernel_rfl) (by rw [by8_length, sha_length]) (Nat.le_of_eq (by rw [Nat.zero_add]; exact ((show (by8 (bsP (fun _ => 0) 32 0)).length = 32 from by rw [by8_length, bsP_length (by omega)])).symm)) (by8_one _)
 rw [st_whole (by rw [by8_length, bsP_length (by omega)])] at H18
 refine GL.u 4 r17 [(2, pt p3 0), (3, pt p12 0)] ?_
 refine GL.q hK8 ?_
 refine G.sr fun K19 hK20 => ?_
 refine GL.r 1 1 [(2, pt p3 0), (6, .slice (some ⟨p12, 0, none⟩) 32 32)] ?_
 refine GL.call (j := 2) (Sum_calls (some ⟨p12, 0, none⟩) 32 32 (sha b) w16 (H18.rdBlk (o := 0) (xs := by8 (sha b)) 1 32 rfl (sub_whole (by rw [by8_length, sha_length]))) ((sha_length _).symm) (by rw [sha_length]; decide)) (by kernel_rfl) rfl (fun e_ w21 hR => ?_)
 obtain ⟨rfl, H23⟩ := hR
 have H22 : Hp w [] [.blk p3 (by8 (bsP (fun _ => 0) 32 0)) 51, .blk p12 (by8 (sha b)) 51] w21 := H18.callNil H23
 refine ⟨_, rfl, [2, 7], [(2, pt p3 0), (7, .agg (by8 (sha (sha b))).toArray)], by kernel_rfl, ?_⟩
 obtain ⟨w24, r25, H26⟩ := H22.stA (P := Try.prog) (o := 0) (vs := by8 (sha (sha b))) (ty := 51) (m := 32) 0 rfl (by kernel_rfl) (by rw [by8_length, sha_length]) (Nat.le_of_eq (by rw [Nat.zero_add]; exact ((show (by8 (bsP (fun _ => 0) 32 0)).length = 32 from by rw [by8_length, bsP_length (by omega)])).symm)) (by8_one _)
 rw [st_whole (by rw [by8_length, bsP_length (by omega)])] at H26
 refine GL.u 3 r25 [(2, pt p3 0)] ?_
 refine GL.q hK20 ?_
 refine G.ret fun F_ hF_ hM_ => hRet _ _ (bodyPost_1 rfl (RV.cell rfl (H26.ldA (o := 0) (ty := 51) (m := 32) (sub := by8 (sha (sha b))) 0 rfl (by kernel_rfl) (sub_whole (by rw [by8_length, sha_length])) (by rw [by8_length, sha_length]))) ?_ F_ hF_ hM_)
 exact ⟨rfl, H26.sub (List.nil_sublist _)⟩
end Go.Proofs.Ytcedmbdahbdmaaa
