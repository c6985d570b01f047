/- Part 4 of what headerBytes_proved stands on. -/
import Derived.Test.YtdepaaphgfapjaaZb3
set_option linter.unusedVariables false
namespace Go.Proofs.Ytdepaaphgfapjaa
open Go.RowKit
theorem first_root : parT ([52, 97, 53, 101, 49, 101, 52, 98, 97, 97, 98, 56, 57, 102, 51, 97, 51, 50, 53, 49, 56, 97, 56, 56, 99, 51, 49, 98, 99, 56, 55, 102, 54, 49, 56, 102, 55, 54, 54, 55, 51, 101, 50, 99, 99, 55, 55, 97, 98, 50, 49, 50, 55, 98, 55, 97, 102, 100, 101, 100, 97, 51, 51, 98] : List UInt8) = ([59, 163, 237, 253, 122, 123, 18, 178, 122, 199, 44, 62, 103, 118, 143, 97, 127, 200, 27, 195, 136, 138, 81, 50, 58, 159, 184, 170, 75, 30, 94, 74] : List UInt8) ∧ parE ([52, 97, 53, 101, 49, 101, 52, 98, 97, 97, 98, 56, 57, 102, 51, 97, 51, 50, 53, 49, 56, 97, 56, 56, 99, 51, 49, 98, 99, 56, 55, 102, 54, 49, 56, 102, 55, 54, 54, 55, 51, 101, 50, 99, 99, 55, 55, 97, 98, 50, 49, 50, 55, 98, 55, 97, 102, 100, 101, 100, 97, 51, 51, 98] : List UInt8) = 0 := ⟨by kernel_rfl, by kernel_rfl⟩
theorem first_hash : sha (sha (hdB 1 ([0, 0, 0, 0, 0, 0, 0, 0, 0, 0, 0, 0, 0, 0, 0, 0, 0, 0, 0, 0, 0, 0, 0, 0, 0, 0, 0, 0, 0, 0, 0, 0] : List UInt8) ([59, 163, 237, 253, 122, 123, 18, 178, 122, 199, 44, 62, 103, 118, 143, 97, 127, 200, 27, 195, 136, 138, 81, 50, 58, 159, 184, 170, 75, 30, 94, 74] : List UInt8) 1231006505 486604799 2083236893)) = ([111, 226, 140, 10, 182, 241, 179, 114, 193, 166, 162, 70, 174, 99, 247, 79, 147, 30, 131, 101, 225, 90, 8, 156, 104, 214, 25, 0, 0, 0, 0, 0] : List UInt8) := by
  rw [show hdB 1 ([0, 0, 0, 0, 0, 0, 0, 0, 0, 0, 0, 0, 0, 0, 0, 0, 0, 0, 0, 0, 0, 0, 0, 0, 0, 0, 0, 0, 0, 0, 0, 0] : List UInt8) ([59, 163, 237, 253, 122, 123, 18, 178, 122, 199, 44, 62, 103, 118, 143, 97, 127, 200, 27, 195, 136, 138, 81, 50, 58, 159, 184, 170, 75, 30, 94, 74] : List UInt8) 1231006505 486604799 2083236893 = ([1, 0, 0, 0, 0, 0, 0, 0, 0, 0, 0, 0, 0, 0, 0, 0, 0, 0, 0, 0, 0, 0, 0, 0, 0, 0, 0, 0, 0, 0, 0, 0, 0, 0, 0, 0, 59, 163, 237, 253, 122, 123, 18, 178, 122, 199, 44, 62, 103, 118, 143, 97, 127, 200, 27, 195, 136, 138, 81, 50, 58, 159, 184, 170, 75, 30, 94, 74, 41, 171, 95, 73, 255, 255, 0, 29, 29, 172, 43, 124] : List UInt8) by kernel_rfl, show sha ([1, 0, 0, 0, 0, 0, 0, 0, 0, 0, 0, 0, 0, 0, 0, 0, 0, 0, 0, 0, 0, 0, 0, 0, 0, 0, 0, 0, 0, 0, 0, 0, 0, 0, 0, 0, 59, 163, 237, 253, 122, 123, 18, 178, 122, 199, 44, 62, 103, 118, 143, 97, 127, 200, 27, 195, 136, 138, 81, 50, 58, 159, 184, 170, 75, 30, 94, 74, 41, 171, 95, 73, 255, 255, 0, 29, 29, 172, 43, 124] : List UInt8) = ([175, 66, 3, 30, 128, 95, 244, 147, 160, 115, 65, 226, 247, 79, 245, 129, 73, 210, 42, 185, 186, 25, 246, 19, 67, 226, 200, 108, 113, 197, 214, 109] : List UInt8) by kernel_rfl]
  kernel_rfl
theorem first_text : hexT ([111, 226, 140, 10, 182, 241, 179, 114, 193, 166, 162, 70, 174, 99, 247, 79, 147, 30, 131, 101, 225, 90, 8, 156, 104, 214, 25, 0, 0, 0, 0, 0] : List UInt8) = ([48, 48, 48, 48, 48, 48, 48, 48, 48, 48, 49, 57, 100, 54, 54, 56, 57, 99, 48, 56, 53, 97, 101, 49, 54, 53, 56, 51, 49, 101, 57, 51, 52, 102, 102, 55, 54, 51, 97, 101, 52, 54, 97, 50, 97, 54, 99, 49, 55, 50, 98, 51, 102, 49, 98, 54, 48, 97, 56, 99, 101, 50, 54, 102] : List UInt8) := by kernel_rfl
theorem run_strHead {P : Program} {t : TypeId} {k : IntKind} {s : List UInt8} {h : Nat} {r : List UInt8} (ht : isStr P t = true) (hh : h ≤ s.length) (hr : s.take h = r) (w : World) :
    (Instr.sliceAt t (.string (strOf s)) none (some (.int k (h : Int))) none).run P w = .ok (.string (strOf r)) w := by
  rw [run_sliceAt_string (h := isStr_spec ht), run_slice_string_h (ht := isStr_spec ht) (h0 := by omega) (h2 := by rw [strOf_size]; omega), ← hr]
  rw [show (strOf s).extract 0 (h : Int).toNat = strOf ((s.drop 0).take (h - 0)) from ByteArray.extract_mk s _ _]
  rfl
theorem first_calls (w : World) : Calls Try.prog 20 #[] w fun e w' => e = .returned (.agg (hdC 1 ([0, 0, 0, 0, 0, 0, 0, 0, 0, 0, 0, 0, 0, 0, 0, 0, 0, 0, 0, 0, 0, 0, 0, 0, 0, 0, 0, 0, 0, 0, 0, 0] : List UInt8) ([59, 163, 237, 253, 122, 123, 18, 178, 122, 199, 44, 62, 103, 118, 143, 97, 127, 200, 27, 195, 136, 138, 81, 50, 58, 159, 184, 170, 75, 30, 94, 74] : List UInt8) 1231006505 486604799 2083236893).toArray) ∧ Hp w [] [] w' := by
  refine calls_G (args := []) Try.func20 rfl Try.ntmps20 rfl ?_
  intro Q0 hRet hNor hPan
  have H := Hp.start w
  have H : Hp w [] [] w := H
  refine G.seqK fun K1 hK2 => ?_
  refine G.region ?_
  obtain ⟨p3, w4, r5, H6⟩ := H.alloc (P := Try.prog) 26 [.int .u32 0, .int .u8 0, .int .u8 0, .int .u8 0, .int .u8 0, .int .u8 0, .int .u8 0, .int .u8 0, .int .u8 0, .int .u8 0, .int .u8 0, .int .u8 0, .int .u8 0, .int .u8 0, .int .u8 0, .int .u8 0, .int .u8 0, .int .u8 0, .int .u8 0, .int .u8 0, .int .u8 0, .int .u8 0, .int .u8 0, .int .u8 0, .int .u8 0, .int .u8 0, .int .u8 0, .int .u8 0, .int .u8 0, .int .u8 0, .int .u8 0, .int .u8 0, .int .u8 0, .int .u8 0, .int .u8 0, .int .u8 0, .int .u8 0, .int .u8 0, .int .u8 0, .int .u8 0, .int .u8 0, .int .u8 0, .int .u8 0, .int .u8 0, .int .u8 0, .int .u8 0, .int .u8 0, .int .u8 0, .int .u8 0, .int .u8 0, .int .u8 0, .int .u8 0, .int .u8 0, .int .u8 0, .int .u8 0, .int .u8 0, .int .u8 0, .int .u8 0, .int .u8 0, .int .u8 0, .int .u8 0, .int .u8 0, .int .u8 0, .int .u8 0, .int .u8 0, .int .u32 0, .int .u32 0, .int .u32 0] (by kernel_rfl)
  have H6 : Hp w [] [.blk p3 [.int .u32 0, .int .u8 0, .int .u8 0, .int .u8 0, .int .u8 0, .int .u8 0, .int .u8 0, .int .u8 0, .int .u8 0, .int .u8 0, .int .u8 0, .int .u8 0, .int .u8 0, .int .u8 0, .int .u8 0, .int .u8 0, .int .u8 0, .int .u8 0, .int .u8 0, .int .u8 0, .int .u8 0, .int .u8 0, .int .u8 0, .int .u8 0, .int .u8 0, .int .u8 0, .int .u8 0, .int .u8 0, .int .u8 0, .int .u8 0, .int .u8 0, .int .u8 0, .int .u8 0, .int .u8 0, .int .u8 0, .int .u8 0, .int .u8 0, .int .u8 0, .int .u8 0, .int .u8 0, .int .u8 0, .int .u8 0, .int .u8 0, .int .u8 0, .int .u8 0, .int .u8 0, .int .u8 0, .int .u8 0, .int .u8 0, .int .u8 0, .int .u8 0, .int .u8 0, .int .u8 0, .int .u8 0, .int .u8 0, .int .u8 0, .int .u8 0, .int .u8 0, .int .u8 0, .int .u8 0, .int .u8 0, .int .u8 0, .int .u8 0, .int .u8 0, .int .u8 0, .int .u32 0, .int .u32 0, .int .u32 0] 26] w4 := H6
  refine GL.sem (j := 1) (r5) [0] [(0, pt p3 0)] (by kernel_rfl) (by kernel_rfl) rfl ?_
  refine GL.k rfl hK2 (fun _ _ h => h) ?_
  refine G.seqK fun K7 hK8 => ?_
  refine G.region ?_
  refine GL.call (j := 1) ((by have h_ := Parse_calls ([52, 97, 53, 101, 49, 101, 52, 98, 97, 97, 98, 56, 57, 102, 51, 97, 51, 50, 53, 49, 56, 97, 56, 56, 99, 51, 49, 98, 99, 56, 55, 102, 54, 49, 56, 102, 55, 54, 54, 55, 51, 101, 50, 99, 99, 55, 55, 97, 98, 50, 49, 50, 55, 98, 55, 97, 102, 100, 101, 100, 97, 51, 51, 98] : List UInt8) w4 (by decide); rw [first_root.1, first_root.2] at h_; exact h_)) (by kernel_rfl) rfl (fun e_ w9 hR => ?_)
  obtain ⟨rfl, H11⟩ := hR
  have H10 : Hp w [] [.blk p3 [.int .u32 0, .int .u8 0, .int .u8 0, .int .u8 0, .int .u8 0, .int .u8 0, .int .u8 0, .int .u8 0, .int .u8 0, .int .u8 0, .int .u8 0, .int .u8 0, .int .u8 0, .int .u8 0, .int .u8 0, .int .u8 0, .int .u8 0, .int .u8 0, .int .u8 0, .int .u8 0, .int .u8 0, .int .u8 0, .int .u8 0, .int .u8 0, .int .u8 0, .int .u8 0, .int .u8 0, .int .u8 0, .int .u8 0, .int .u8 0, .int .u8 0, .int .u8 0, .int .u8 0, .int .u8 0, .int .u8 0, .int .u8 0, .int .u8 0, .int .u8 0, .int .u8 0, .int .u8 0, .int .u8 0, .int .u8 0, .int .u8 0, .int .u8 0, .int .u8 0, .int .u8 0, .int .u8 0, .int .u8 0, .int .u8 0, .int .u8 0, .int .u8 0, .int .u8 0, .int .u8 0, .int .u8 0, .int .u8 0, .int .u8 0, .int .u8 0, .int .u8 0, .int .u8 0, .int .u8 0, .int .u8 0, .int .u8 0, .int .u8 0, .int .u8 0, .int .u8 0, .int .u32 0, .int .u32 0, .int .u32 0] 26] w9 := H6.callNil H11
  refine ⟨_, rfl, [0, 4], [(0, pt p3 0), (4, .tuple #[.agg #[.int .u8 59, .int .u8 163, .int .u8 237, .int .u8 253, .int .u8 122, .int .u8 123, .int .u8 18, .int .u8 178, .int .u8 122, .int .u8 199, .int .u8 44, .int .u8 62, .int .u8 103, .int .u8 118, .int .u8 143, .int .u8 97, .int .u8 127, .int .u8 200, .int .u8 27, .int .u8 195, .int .u8 136, .int .u8 138, .int .u8 81, .int .u8 50, .int .u8 58, .int .u8 159, .int .u8 184, .int .u8 170, .int .u8 75, .int .u8 30, .int .u8 94, .int .u8 74], .int .i64 0])], by kernel_rfl, ?_⟩
  refine GL.run (j := 4) 3 [0, 5, 6] [(0, pt p3 0), (5, .agg #[.int .u8 59, .int .u8 163, .int .u8 237, .int .u8 253, .int .u8 122, .int .u8 123, .int .u8 18, .int .u8 178, .int .u8 122, .int .u8 199, .int .u8 44, .int .u8 62, .int .u8 103, .int .u8 118, .int .u8 143, .int .u8 97, .int .u8 127, .int .u8 200, .int .u8 27, .int .u8 195, .int .u8 136, .int .u8 138, .int .u8 81, .int .u8 50, .int .u8 58, .int .u8 159, .int .u8 184, .int .u8 170, .int .u8 75, .int .u8 30, .int .u8 94, .int .u8 74]), (6, .int .i64 0)] (by kernel_rfl) rfl ?_
  obtain ⟨p12, w13, r14, H15⟩ := H10.alloc (P := Try.prog) 24 [.int .u8 0, .int .u8 0, .int .u8 0, .int .u8 0, .int .u8 0, .int .u8 0, .int .u8 0, .int .u8 0, .int .u8 0, .int .u8 0, .int .u8 0, .int .u8 0, .int .u8 0, .int .u8 0, .int .u8 0, .int .u8 0, .int .u8 0, .int .u8 0, .int .u8 0, .int .u8 0, .int .u8 0, .int .u8 0, .int .u8 0, .int .u8 0, .int .u8 0, .int .u8 0, .int .u8 0, .int .u8 0, .int .u8 0, .int .u8 0, .int .u8 0, .int .u8 0] (by kernel_rfl)
  have H15 : Hp w [] [.blk p3 [.int .u32 0, .int .u8 0, .int .u8 0, .int .u8 0, .int .u8 0, .int .u8 0, .int .u8 0, .int .u8 0, .int .u8 0, .int .u8 0, .int .u8 0, .int .u8 0, .int .u8 0, .int .u8 0, .int .u8 0, .int .u8 0, .int .u8 0, .int .u8 0, .int .u8 0, .int .u8 0, .int .u8 0, .int .u8 0, .int .u8 0, .int .u8 0, .int .u8 0, .int .u8 0, .int .u8 0, .int .u8 0, .int .u8 0, .int .u8 0, .int .u8 0, .int .u8 0, .int .u8 0, .int .u8 0, .int .u8 0, .int .u8 0, .int .u8 0, .int .u8 0, .int .u8 0, .int .u8 0, .int .u8 0, .int .u8 0, .int .u8 0, .int .u8 0, .int .u8 0, .int .u8 0, .int .u8 0, .int .u8 0, .int .u8 0, .int .u8 0, .int .u8 0, .int .u8 0, .int .u8 0, .int .u8 0, .int .u8 0, .int .u8 0, .int .u8 0, .int .u8 0, .int .u8 0, .int .u8 0, .int .u8 0, .int .u8 0, .int .u8 0, .int .u8 0, .int .u8 0, .int .u32 0, .int .u32 0, .int .u32 0] 26, .blk p12 [.int .u8 0, .int .u8 0, .int .u8 0, .int .u8 0, .int .u8 0, .int .u8 0, .int .u8 0, .int .u8 0, .int .u8 0, .int .u8 0, .int .u8 0, .int .u8 0, .int .u8 0, .int .u8 0, .int .u8 0, .int .u8 0, .int .u8 0, .int .u8 0, .int .u8 0, .int .u8 0, .int .u8 0, .int .u8 0, .int .u8 0, .int .u8 0, .int .u8 0, .int .u8 0, .int .u8 0, .int .u8 0, .int .u8 0, .int .u8 0, .int .u8 0, .int .u8 0] 24] w13 := H15
  refine GL.sem (j := 5) (r14) [0, 1, 5, 6] [(0, pt p3 0), (1, pt p12 0), (5, .agg #[.int .u8 59, .int .u8 163, .int .u8 237, .int .u8 253, .int .u8 122, .int .u8 123, .int .u8 18, .int .u8 178, .int .u8 122, .int .u8 199, .int .u8 44, .int .u8 62, .int .u8 103, .int .u8 118, .int .u8 143, .int .u8 97, .int .u8 127, .int .u8 200, .int .u8 27, .int .u8 195, .int .u8 136, .int .u8 138, .int .u8 81, .int .u8 50, .int .u8 58, .int .u8 159, .int .u8 184, .int .u8 170, .int .u8 75, .int .u8 30, .int .u8 94, .int .u8 74]), (6, .int .i64 0)] (by kernel_rfl) (by kernel_rfl) rfl ?_
  obtain ⟨w16, r17, H18⟩ := H15.stA (P := Try.prog) (o := 0) (vs := [.int .u8 59, .int .u8 163, .int .u8 237, .int .u8 253, .int .u8 122, .int .u8 123, .int .u8 18, .int .u8 178, .int .u8 122, .int .u8 199, .int .u8 44, .int .u8 62, .int .u8 103, .int .u8 118, .int .u8 143, .int .u8 97, .int .u8 127, .int .u8 200, .int .u8 27, .int .u8 195, .int .u8 136, .int .u8 138, .int .u8 81, .int .u8 50, .int .u8 58, .int .u8 159, .int .u8 184, .int .u8 170, .int .u8 75, .int .u8 30, .int .u8 94, .int .u8 74]) (ty := 24) (m := 32) 1 rfl (by kernel_rfl) rfl (by simp) (by simp [Value.oneCell'])
  have H18 : Hp w [] [.blk p3 [.int .u32 0, .int .u8 0, .int .u8 0, .int .u8 0, .int .u8 0, .int .u8 0, .int .u8 0, .int .u8 0, .int .u8 0, .int .u8 0, .int .u8 0, .int .u8 0, .int .u8 0, .int .u8 0, .int .u8 0, .int .u8 0, .int .u8 0, .int .u8 0, .int .u8 0, .int .u8 0, .int .u8 0, .int .u8 0, .int .u8 0, .int .u8 0, .int .u8 0, .int .u8 0, .int .u8 0, .int .u8 0, .int .u8 0, .int .u8 0, .int .u8 0, .int .u8 0, .int .u8 0, .int .u8 0, .int .u8 0, .int .u8 0, .int .u8 0, .int .u8 0, .int .u8 0, .int .u8 0, .int .u8 0, .int .u8 0, .int .u8 0, .int .u8 0, .int .u8 0, .int .u8 0, .int .u8 0, .int .u8 0, .int .u8 0, .int .u8 0, .int .u8 0, .int .u8 0, .int .u8 0, .int .u8 0, .int .u8 0, .int .u8 0, .int .u8 0, .int .u8 0, .int .u8 0, .int .u8 0, .int .u8 0, .int .u8 0, .int .u8 0, .int .u8 0, .int .u8 0, .int .u32 0, .int .u32 0, .int .u32 0] 26, .blk p12 [.int .u8 59, .int .u8 163, .int .u8 237, .int .u8 253, .int .u8 122, .int .u8 123, .int .u8 18, .int .u8 178, .int .u8 122, .int .u8 199, .int .u8 44, .int .u8 62, .int .u8 103, .int .u8 118, .int .u8 143, .int .u8 97, .int .u8 127, .int .u8 200, .int .u8 27, .int .u8 195, .int .u8 136, .int .u8 138, .int .u8 81, .int .u8 50, .int .u8 58, .int .u8 159, .int .u8 184, .int .u8 170, .int .u8 75, .int .u8 30, .int .u8 94, .int .u8 74] 24] w16 := H18
  refine GL.semU (j := 6) r17 [0, 1, 6] [(0, pt p3 0), (1, pt p12 0), (6, .int .i64 0)] (by kernel_rfl) rfl rfl rfl ?_
  refine GL.run (j := 7) 1 [0, 1] [(0, pt p3 0), (1, pt p12 0)] (by kernel_rfl) rfl ?_
  refine GL.k rfl hK8 (fun _ _ h => h) ?_
  refine G.seqK fun K19 hK20 => ?_
  refine G.region ?_
  refine GL.sem (j := 1) (H18.ldA (o := 0) (ty := 24) (m := 32) (sub := [.int .u8 59, .int .u8 163, .int .u8 237, .int .u8 253, .int .u8 122, .int .u8 123, .int .u8 18, .int .u8 178, .int .u8 122, .int .u8 199, .int .u8 44, .int .u8 62, .int .u8 103, .int .u8 118, .int .u8 143, .int .u8 97, .int .u8 127, .int .u8 200, .int .u8 27, .int .u8 195, .int .u8 136, .int .u8 138, .int .u8 81, .int .u8 50, .int .u8 58, .int .u8 159, .int .u8 184, .int .u8 170, .int .u8 75, .int .u8 30, .int .u8 94, .int .u8 74]) 1 rfl (by kernel_rfl) rfl rfl) [0, 7] [(0, pt p3 0), (7, .agg #[.int .u8 59, .int .u8 163, .int .u8 237, .int .u8 253, .int .u8 122, .int .u8 123, .int .u8 18, .int .u8 178, .int .u8 122, .int .u8 199, .int .u8 44, .int .u8 62, .int .u8 103, .int .u8 118, .int .u8 143, .int .u8 97, .int .u8 127, .int .u8 200, .int .u8 27, .int .u8 195, .int .u8 136, .int .u8 138, .int .u8 81, .int .u8 50, .int .u8 58, .int .u8 159, .int .u8 184, .int .u8 170, .int .u8 75, .int .u8 30, .int .u8 94, .int .u8 74])] (by kernel_rfl) (by kernel_rfl) rfl ?_
  refine GL.run (j := 2) 1 [0, 8] [(0, pt p3 0), (8, .agg #[.int .u32 1, .int .u8 0, .int .u8 0, .int .u8 0, .int .u8 0, .int .u8 0, .int .u8 0, .int .u8 0, .int .u8 0, .int .u8 0, .int .u8 0, .int .u8 0, .int .u8 0, .int .u8 0, .int .u8 0, .int .u8 0, .int .u8 0, .int .u8 0, .int .u8 0, .int .u8 0, .int .u8 0, .int .u8 0, .int .u8 0, .int .u8 0, .int .u8 0, .int .u8 0, .int .u8 0, .int .u8 0, .int .u8 0, .int .u8 0, .int .u8 0, .int .u8 0, .int .u8 0, .int .u8 59, .int .u8 163, .int .u8 237, .int .u8 253, .int .u8 122, .int .u8 123, .int .u8 18, .int .u8 178, .int .u8 122, .int .u8 199, .int .u8 44, .int .u8 62, .int .u8 103, .int .u8 118, .int .u8 143, .int .u8 97, .int .u8 127, .int .u8 200, .int .u8 27, .int .u8 195, .int .u8 136, .int .u8 138, .int .u8 81, .int .u8 50, .int .u8 58, .int .u8 159, .int .u8 184, .int .u8 170, .int .u8 75, .int .u8 30, .int .u8 94, .int .u8 74, .int .u32 1231006505, .int .u32 486604799, .int .u32 2083236893])] (by kernel_rfl) rfl ?_
  obtain ⟨w21, r22, H23⟩ := H18.stA (P := Try.prog) (o := 0) (vs := [.int .u32 1, .int .u8 0, .int .u8 0, .int .u8 0, .int .u8 0, .int .u8 0, .int .u8 0, .int .u8 0, .int .u8 0, .int .u8 0, .int .u8 0, .int .u8 0, .int .u8 0, .int .u8 0, .int .u8 0, .int .u8 0, .int .u8 0, .int .u8 0, .int .u8 0, .int .u8 0, .int .u8 0, .int .u8 0, .int .u8 0, .int .u8 0, .int .u8 0, .int .u8 0, .int .u8 0, .int .u8 0, .int .u8 0, .int .u8 0, .int .u8 0, .int .u8 0, .int .u8 0, .int .u8 59, .int .u8 163, .int .u8 237, .int .u8 253, .int .u8 122, .int .u8 123, .int .u8 18, .int .u8 178, .int .u8 122, .int .u8 199, .int .u8 44, .int .u8 62, .int .u8 103, .int .u8 118, .int .u8 143, .int .u8 97, .int .u8 127, .int .u8 200, .int .u8 27, .int .u8 195, .int .u8 136, .int .u8 138, .int .u8 81, .int .u8 50, .int .u8 58, .int .u8 159, .int .u8 184, .int .u8 170, .int .u8 75, .int .u8 30, .int .u8 94, .int .u8 74, .int .u32 1231006505, .int .u32 486604799, .int .u32 2083236893]) (ty := 26) (m := 68) 0 rfl (by kernel_rfl) rfl (by simp) (by simp [Value.oneCell'])
  have H23 : Hp w [] [.blk p3 [.int .u32 1, .int .u8 0, .int .u8 0, .int .u8 0, .int .u8 0, .int .u8 0, .int .u8 0, .int .u8 0, .int .u8 0, .int .u8 0, .int .u8 0, .int .u8 0, .int .u8 0, .int .u8 0, .int .u8 0, .int .u8 0, .int .u8 0, .int .u8 0, .int .u8 0, .int .u8 0, .int .u8 0, .int .u8 0, .int .u8 0, .int .u8 0, .int .u8 0, .int .u8 0, .int .u8 0, .int .u8 0, .int .u8 0, .int .u8 0, .int .u8 0, .int .u8 0, .int .u8 0, .int .u8 59, .int .u8 163, .int .u8 237, .int .u8 253, .int .u8 122, .int .u8 123, .int .u8 18, .int .u8 178, .int .u8 122, .int .u8 199, .int .u8 44, .int .u8 62, .int .u8 103, .int .u8 118, .int .u8 143, .int .u8 97, .int .u8 127, .int .u8 200, .int .u8 27, .int .u8 195, .int .u8 136, .int .u8 138, .int .u8 81, .int .u8 50, .int .u8 58, .int .u8 159, .int .u8 184, .int .u8 170, .int .u8 75, .int .u8 30, .int .u8 94, .int .u8 74, .int .u32 1231006505, .int .u32 486604799, .int .u32 2083236893] 26, .blk p12 [.int .u8 59, .int .u8 163, .int .u8 237, .int .u8 253, .int .u8 122, .int .u8 123, .int .u8 18, .int .u8 178, .int .u8 122, .int .u8 199, .int .u8 44, .int .u8 62, .int .u8 103, .int .u8 118, .int .u8 143, .int .u8 97, .int .u8 127, .int .u8 200, .int .u8 27, .int .u8 195, .int .u8 136, .int .u8 138, .int .u8 81, .int .u8 50, .int .u8 58, .int .u8 159, .int .u8 184, .int .u8 170, .int .u8 75, .int .u8 30, .int .u8 94, .int .u8 74] 24] w21 := H23
  refine GL.semU (j := 3) r22 [0] [(0, pt p3 0)] (by kernel_rfl) rfl rfl rfl ?_
  refine GL.k rfl hK20 (fun _ _ h => h) ?_
  refine G.ret ?_
  intro F_ hF_ hM_
  refine hRet _ _ (bodyPost_1 rfl (RV.cell rfl (H23.ldA (o := 0) (ty := 26) (m := 68) (sub := [.int .u32 1, .int .u8 0, .int .u8 0, .int .u8 0, .int .u8 0, .int .u8 0, .int .u8 0, .int .u8 0, .int .u8 0, .int .u8 0, .int .u8 0, .int .u8 0, .int .u8 0, .int .u8 0, .int .u8 0, .int .u8 0, .int .u8 0, .int .u8 0, .int .u8 0, .int .u8 0, .int .u8 0, .int .u8 0, .int .u8 0, .int .u8 0, .int .u8 0, .int .u8 0, .int .u8 0, .int .u8 0, .int .u8 0, .int .u8 0, .int .u8 0, .int .u8 0, .int .u8 0, .int .u8 59, .int .u8 163, .int .u8 237, .int .u8 253, .int .u8 122, .int .u8 123, .int .u8 18, .int .u8 178, .int .u8 122, .int .u8 199, .int .u8 44, .int .u8 62, .int .u8 103, .int .u8 118, .int .u8 143, .int .u8 97, .int .u8 127, .int .u8 200, .int .u8 27, .int .u8 195, .int .u8 136, .int .u8 138, .int .u8 81, .int .u8 50, .int .u8 58, .int .u8 159, .int .u8 184, .int .u8 170, .int .u8 75, .int .u8 30, .int .u8 94, .int .u8 74, .int .u32 1231006505, .int .u32 486604799, .int .u32 2083236893]) 0 rfl (by kernel_rfl) rfl rfl)) ?_ F_ hF_ hM_)
  exact ⟨rfl, H23.sub (List.nil_sublist _)⟩
theorem first_num : bsum (fun i => (([111, 226, 140, 10, 182, 241, 179, 114, 193, 166, 162, 70, 174, 99, 247, 79, 147, 30, 131, 101, 225, 90, 8, 156, 104, 214, 25, 0, 0, 0, 0, 0] : List UInt8).getD i 0).toNat) 32 = 10628944869218562084050143519444549580389464591454674019345556079 := by kernel_rfl
theorem Lit0_calls (w : World) : Calls Try.prog 51 #[.int .u64 65535] w fun e w' => e = .returned (.agg #[.int .u64 65535, .int .u64 0, .int .u64 0, .int .u64 0]) ∧ Hp w [] [] w' := by
  refine calls_G (args := [.int .u64 65535]) Try.func51 rfl Try.ntmps51 rfl ?_
  intro Q0 hRet hNor hPan
  have H := Hp.start w
  have H : Hp w [] [] w := H
  refine G.seqK fun K1 hK2 => ?_
  refine G.region ?_
  obtain ⟨p3, w4, r5, H6⟩ := H.alloc (P := Try.prog) 33 [.int .u64 0, .int .u64 0, .int .u64 0, .int .u64 0] (by kernel_rfl)
  have H6 : Hp w [] [.blk p3 [.int .u64 0, .int .u64 0, .int .u64 0, .int .u64 0] 33] w4 := H6
  refine GL.sem (j := 1) (r5) [0, 2] [(0, .int .u64 65535), (2, pt p3 0)] (by kernel_rfl) (by kernel_rfl) rfl ?_
  refine GL.k rfl hK2 (fun _ _ h => h) ?_
  refine G.seqK fun K7 hK8 => ?_
  refine G.region ?_
  refine GL.run (j := 2) 2 [2, 4] [(2, pt p3 0), (4, .agg #[.int .u64 65535, .int .u64 0, .int .u64 0, .int .u64 0])] (by kernel_rfl) rfl ?_
  obtain ⟨w9, r10, H11⟩ := H6.stA (P := Try.prog) (o := 0) (vs := [.int .u64 65535, .int .u64 0, .int .u64 0, .int .u64 0]) (ty := 33) (m := 4) 0 rfl (by kernel_rfl) rfl (by simp) (by simp [Value.oneCell'])
  have H11 : Hp w [] [.blk p3 [.int .u64 65535, .int .u64 0, .int .u64 0, .int .u64 0] 33] w9 := H11
  refine GL.semU (j := 3) r10 [2] [(2, pt p3 0)] (by kernel_rfl) rfl rfl rfl ?_
  refine GL.k rfl hK8 (fun _ _ h => h) ?_
  refine G.ret ?_
  intro F_ hF_ hM_
  refine hRet _ _ (bodyPost_1 rfl (RV.cell rfl (H11.ldA (o := 0) (ty := 33) (m := 4) (sub := [.int .u64 65535, .int .u64 0, .int .u64 0, .int .u64 0]) 0 rfl (by kernel_rfl) rfl rfl)) ?_ F_ hF_ hM_)
  exact ⟨rfl, H11.sub (List.nil_sublist _)⟩
theorem Lit1_calls (w : World) : Calls Try.prog 65 #[.int .u64 65535] w fun e w' => e = .returned (.int .i64 16) ∧ Hp w [] [] w' := by
  refine calls_G (args := [.int .u64 65535]) Try.func65 rfl Try.ntmps65 rfl ?_
  intro Q0 hRet hNor hPan
  have H := Hp.start w
  have H : Hp w [] [] w := H
  refine G.seqK fun K1 hK2 => ?_
  refine G.region ?_
  refine GL.run (j := 1) 1 [0, 2] [(0, .int .u64 65535), (2, .int .i64 0)] (by kernel_rfl) rfl ?_
  refine GL.k rfl hK2 (fun _ _ h => h) ?_
  refine G.seqK fun K3 hK4 => ?_
  refine G.seqK fun K5 hK6 => ?_
  refine G.region ?_
  refine GL.run (j := 2) 2 [0, 2, 4] [(0, .int .u64 65535), (2, .int .i64 0), (4, .bool false)] (by kernel_rfl) rfl ?_
  refine GL.k rfl hK6 (fun _ _ h => h) ?_
  refine G.no rfl ?_
  refine G.skipK hK4 (fun _ _ h => h) ?_
  refine G.seqK fun K7 hK8 => ?_
  refine G.seqK fun K9 hK10 => ?_
  refine G.region ?_
  refine GL.run (j := 2) 2 [0, 2, 8] [(0, .int .u64 65535), (2, .int .i64 0), (8, .bool false)] (by kernel_rfl) rfl ?_
  refine GL.k rfl hK10 (fun _ _ h => h) ?_
  refine G.no rfl ?_
  refine G.skipK hK8 (fun _ _ h => h) ?_
  refine G.seqK fun K11 hK12 => ?_
  refine G.seqK fun K13 hK14 => ?_
  refine G.region ?_
  refine GL.run (j := 2) 2 [0, 2, 14] [(0, .int .u64 65535), (2, .int .i64 0), (14, .bool true)] (by kernel_rfl) rfl ?_
  refine GL.k rfl hK14 (fun _ _ h => h) ?_
  refine G.yes rfl ?_
  refine G.seqK fun K15 hK16 => ?_
  refine G.region ?_
  refine GL.run (j := 3) 3 [0, 2] [(0, .int .u64 255), (2, .int .i64 0)] (by kernel_rfl) rfl ?_
  refine GL.k rfl hK16 (fun _ _ h => h) ?_
  refine G.region ?_
  refine GL.run (j := 3) 3 [0, 2] [(0, .int .u64 255), (2, .int .i64 8)] (by kernel_rfl) rfl ?_
  refine GL.k rfl hK12 (fun _ _ h => h) ?_
  refine G.seqK fun K17 hK18 => ?_
  refine G.region ?_
  refine GL.run (j := 3) 3 [19, 21] [(19, .int .i64 8), (21, .int .u8 255)] (by kernel_rfl) rfl ?_
  refine GL.sem (j := 4) (run_strIdx (P := Try.prog) (k := .u8) (t := 9) (s := tab8) (i := 255) (b := 8) (by kernel_rfl) (by kernel_rfl) _) [19, 22] [(19, .int .i64 8), (22, .int .u8 8)] (by kernel_rfl) (by kernel_rfl) rfl ?_
  refine GL.run (j := 7) 3 [2] [(2, .int .i64 16)] (by kernel_rfl) rfl ?_
  refine GL.k rfl hK18 (fun _ _ h => h) ?_
  refine G.ret ?_
  intro F_ hF_ hM_
  refine hRet _ _ (bodyPost_1 rfl (RV.tmp rfl) ?_ F_ hF_ hM_)
  exact ⟨rfl, H.sub (List.nil_sublist _)⟩
theorem Lit2_calls (w : World) : Calls Try.prog 52 #[.agg #[.int .u64 65535, .int .u64 0, .int .u64 0, .int .u64 0]] w fun e w' => e = .returned (.int .i64 16) ∧ Hp w [] [] w' := by
  refine calls_G (args := [.agg #[.int .u64 65535, .int .u64 0, .int .u64 0, .int .u64 0]]) Try.func52 rfl Try.ntmps52 rfl ?_
  intro Q0 hRet hNor hPan
  have H := Hp.start w
  have H : Hp w [] [] w := H
  refine G.seqK fun K1 hK2 => ?_
  refine G.region ?_
  obtain ⟨p3, w4, r5, H6⟩ := H.box (P := Try.prog) 33 [.int .u64 65535, .int .u64 0, .int .u64 0, .int .u64 0] (.agg #[.int .u64 65535, .int .u64 0, .int .u64 0, .int .u64 0]) rfl
  have H6 : Hp w [] [.blk p3 [.int .u64 65535, .int .u64 0, .int .u64 0, .int .u64 0] 33] w4 := H6
  refine GL.sem (j := 1) (r5) [1] [(1, pt p3 0)] (by kernel_rfl) (by kernel_rfl) rfl ?_
  refine GL.run (j := 2) 1 [1] [(1, pt p3 0)] (by kernel_rfl) rfl ?_
  refine GL.k rfl hK2 (fun _ _ h => h) ?_
  refine G.seqK fun K7 hK8 => ?_
  refine G.seqK fun K9 hK10 => ?_
  refine G.region ?_
  refine GL.run (j := 1) 1 [1, 3] [(1, pt p3 0), (3, .int .i64 3)] (by kernel_rfl) rfl ?_
  refine GL.k rfl hK10 (fun _ _ h => h) ?_
  refine G.block ?_
  refine G.unroll 70 ?_
  refine G.seqK fun K11 hK12 => ?_
  refine G.seqK fun K13 hK14 => ?_
  refine G.region ?_
  refine GL.run (j := 2) 2 [1, 3, 5] [(1, pt p3 0), (3, .int .i64 3), (5, .bool true)] (by kernel_rfl) rfl ?_
  refine GL.k rfl hK14 (fun _ _ h => h) ?_
  refine G.yes rfl ?_
  refine G.skipK hK12 (fun _ _ h => h) ?_
  refine G.seqK fun K15 hK16 => ?_
  refine G.block ?_
  refine G.seqK fun K17 hK18 => ?_
  refine G.region ?_
  refine GL.run (j := 2) 2 [1, 3, 9] [(1, pt p3 0), (3, .int .i64 3), (9, pt p3 3)] (by kernel_rfl) rfl ?_
  refine GL.sem (j := 3) (H6.ld (o := 3) (ty := 31) (v := .int .u64 0) 0 rfl (by kernel_rfl) rfl) [1, 3, 10] [(1, pt p3 0), (3, .int .i64 3), (10, .int .u64 0)] (by kernel_rfl) (by kernel_rfl) rfl ?_
  refine GL.run (j := 4) 1 [1, 3, 11] [(1, pt p3 0), (3, .int .i64 3), (11, .bool false)] (by kernel_rfl) rfl ?_
  refine GL.k rfl hK18 (fun _ _ h => h) ?_
  refine G.no rfl ?_
  refine G.skipK hK16 (fun _ _ h => h) ?_
  refine G.region ?_
  refine GL.run (j := 3) 3 [1, 3] [(1, pt p3 0), (3, .int .i64 2)] (by kernel_rfl) rfl ?_
  refine GL.round rfl ?_
  refine G.seqK fun K19 hK20 => ?_
  refine G.seqK fun K21 hK22 => ?_
  refine G.region ?_
  refine GL.run (j := 2) 2 [1, 3, 5] [(1, pt p3 0), (3, .int .i64 2), (5, .bool true)] (by kernel_rfl) rfl ?_
  refine GL.k rfl hK22 (fun _ _ h => h) ?_
  refine G.yes rfl ?_
  refine G.skipK hK20 (fun _ _ h => h) ?_
  refine G.seqK fun K23 hK24 => ?_
  refine G.block ?_
  refine G.seqK fun K25 hK26 => ?_
  refine G.region ?_
  refine GL.run (j := 2) 2 [1, 3, 9] [(1, pt p3 0), (3, .int .i64 2), (9, pt p3 2)] (by kernel_rfl) rfl ?_
  refine GL.sem (j := 3) (H6.ld (o := 2) (ty := 31) (v := .int .u64 0) 0 rfl (by kernel_rfl) rfl) [1, 3, 10] [(1, pt p3 0), (3, .int .i64 2), (10, .int .u64 0)] (by kernel_rfl) (by kernel_rfl) rfl ?_
  refine GL.run (j := 4) 1 [1, 3, 11] [(1, pt p3 0), (3, .int .i64 2), (11, .bool false)] (by kernel_rfl) rfl ?_
  refine GL.k rfl hK26 (fun _ _ h => h) ?_
  refine G.no rfl ?_
  refine G.skipK hK24 (fun _ _ h => h) ?_
  refine G.region ?_
  refine GL.run (j := 3) 3 [1, 3] [(1, pt p3 0), (3, .int .i64 1)] (by kernel_rfl) rfl ?_
  refine GL.round rfl ?_
  refine G.seqK fun K27 hK28 => ?_
  refine G.seqK fun K29 hK30 => ?_
  refine G.region ?_
  refine GL.run (j := 2) 2 [1, 3, 5] [(1, pt p3 0), (3, .int .i64 1), (5, .bool true)] (by kernel_rfl) rfl ?_
  refine GL.k rfl hK30 (fun _ _ h => h) ?_
  refine G.yes rfl ?_
  refine G.skipK hK28 (fun _ _ h => h) ?_
  refine G.seqK fun K31 hK32 => ?_
  refine G.block ?_
  refine G.seqK fun K33 hK34 => ?_
  refine G.region ?_
  refine GL.run (j := 2) 2 [1, 3, 9] [(1, pt p3 0), (3, .int .i64 1), (9, pt p3 1)] (by kernel_rfl) rfl ?_
  refine GL.sem (j := 3) (H6.ld (o := 1) (ty := 31) (v := .int .u64 0) 0 rfl (by kernel_rfl) rfl) [1, 3, 10] [(1, pt p3 0), (3, .int .i64 1), (10, .int .u64 0)] (by kernel_rfl) (by kernel_rfl) rfl ?_
  refine GL.run (j := 4) 1 [1, 3, 11] [(1, pt p3 0), (3, .int .i64 1), (11, .bool false)] (by kernel_rfl) rfl ?_
  refine GL.k rfl hK34 (fun _ _ h => h) ?_
  refine G.no rfl ?_
  refine G.skipK hK32 (fun _ _ h => h) ?_
  refine G.region ?_
  refine GL.run (j := 3) 3 [1, 3] [(1, pt p3 0), (3, .int .i64 0)] (by kernel_rfl) rfl ?_
  refine GL.round rfl ?_
  refine G.seqK fun K35 hK36 => ?_
  refine G.seqK fun K37 hK38 => ?_
  refine G.region ?_
  refine GL.run (j := 2) 2 [1, 3, 5] [(1, pt p3 0), (3, .int .i64 0), (5, .bool true)] (by kernel_rfl) rfl ?_
  refine GL.k rfl hK38 (fun _ _ h => h) ?_
  refine G.yes rfl ?_
  refine G.skipK hK36 (fun _ _ h => h) ?_
  refine G.seqK fun K39 hK40 => ?_
  refine G.block ?_
  refine G.seqK fun K41 hK42 => ?_
  refine G.region ?_
  refine GL.run (j := 2) 2 [1, 3, 9] [(1, pt p3 0), (3, .int .i64 0), (9, pt p3 0)] (by kernel_rfl) rfl ?_
  refine GL.sem (j := 3) (H6.ld (o := 0) (ty := 31) (v := .int .u64 65535) 0 rfl (by kernel_rfl) rfl) [1, 3, 10] [(1, pt p3 0), (3, .int .i64 0), (10, .int .u64 65535)] (by kernel_rfl) (by kernel_rfl) rfl ?_
  refine GL.run (j := 4) 1 [1, 3, 11] [(1, pt p3 0), (3, .int .i64 0), (11, .bool true)] (by kernel_rfl) rfl ?_
  refine GL.k rfl hK42 (fun _ _ h => h) ?_
  refine G.yes rfl ?_
  refine G.seqK fun K43 hK44 => ?_
  refine G.region ?_
  refine GL.run (j := 4) 4 [13, 15] [(13, .int .i64 0), (15, pt p3 0)] (by kernel_rfl) rfl ?_
  refine GL.sem (j := 5) (H6.ld (o := 0) (ty := 31) (v := .int .u64 65535) 0 rfl (by kernel_rfl) rfl) [13, 16] [(13, .int .i64 0), (16, .int .u64 65535)] (by kernel_rfl) (by kernel_rfl) rfl ?_
  refine GL.call (j := 6) (Lit1_calls w4) (by kernel_rfl) rfl (fun e_ w45 hR => ?_)
  obtain ⟨rfl, H47⟩ := hR
  have H46 : Hp w [] [.blk p3 [.int .u64 65535, .int .u64 0, .int .u64 0, .int .u64 0] 33] w45 := H6.callNil H47
  refine ⟨_, rfl, [13, 17], [(13, .int .i64 0), (17, .int .i64 16)], by kernel_rfl, ?_⟩
  refine GL.run (j := 8) 2 [2] [(2, .int .i64 16)] (by kernel_rfl) rfl ?_
  refine GL.k rfl hK44 (fun _ _ h => h) ?_
  refine G.ret ?_
  intro F_ hF_ hM_
  refine hRet _ _ (bodyPost_1 rfl (RV.tmp rfl) ?_ F_ hF_ hM_)
  exact ⟨rfl, H46.sub (List.nil_sublist _)⟩
theorem Lit3_calls (w : World) : Calls Try.prog 53 #[.agg #[.int .u64 65535, .int .u64 0, .int .u64 0, .int .u64 0], .int .i64 208] w fun e w' => e = .returned (.agg #[.int .u64 0, .int .u64 0, .int .u64 0, .int .u64 4294901760]) ∧ Hp w [] [] w' := by
  refine calls_G (args := [.agg #[.int .u64 65535, .int .u64 0, .int .u64 0, .int .u64 0], .int .i64 208]) Try.func53 rfl Try.ntmps53 rfl ?_
  intro Q0 hRet hNor hPan
  have H := Hp.start w
  have H : Hp w [] [] w := H
  refine G.seqK fun K1 hK2 => ?_
  refine G.region ?_
  obtain ⟨p3, w4, r5, H6⟩ := H.box (P := Try.prog) 33 [.int .u64 65535, .int .u64 0, .int .u64 0, .int .u64 0] (.agg #[.int .u64 65535, .int .u64 0, .int .u64 0, .int .u64 0]) rfl
  have H6 : Hp w [] [.blk p3 [.int .u64 65535, .int .u64 0, .int .u64 0, .int .u64 0] 33] w4 := H6
  refine GL.sem (j := 1) (r5) [1, 2] [(1, .int .i64 208), (2, pt p3 0)] (by kernel_rfl) (by kernel_rfl) rfl ?_
  obtain ⟨p7, w8, r9, H10⟩ := H6.alloc (P := Try.prog) 33 [.int .u64 0, .int .u64 0, .int .u64 0, .int .u64 0] (by kernel_rfl)
  have H10 : Hp w [] [.blk p3 [.int .u64 65535, .int .u64 0, .int .u64 0, .int .u64 0] 33, .blk p7 [.int .u64 0, .int .u64 0, .int .u64 0, .int .u64 0] 33] w8 := H10
  refine GL.sem (j := 2) (r9) [1, 2, 4] [(1, .int .i64 208), (2, pt p3 0), (4, pt p7 0)] (by kernel_rfl) (by kernel_rfl) rfl ?_
  refine GL.k rfl hK2 (fun _ _ h => h) ?_
  refine G.seqK fun K11 hK12 => ?_
  refine G.block ?_
  refine G.seqK fun K13 hK14 => ?_
  refine G.region ?_
  refine GL.run (j := 7) 7 [1, 2, 4, 9] [(1, .int .i64 208), (2, pt p3 0), (4, pt p7 0), (9, .bool false)] (by kernel_rfl) rfl ?_
  refine GL.k rfl hK14 (fun _ _ h => h) ?_
  refine G.no rfl ?_
  refine G.seqK fun K15 hK16 => ?_
  refine G.region ?_
  refine GL.run (j := 3) 3 [1, 2, 4, 17] [(1, .int .i64 208), (2, pt p3 0), (4, pt p7 0), (17, .bool false)] (by kernel_rfl) rfl ?_
  refine GL.k rfl hK16 (fun _ _ h => h) ?_
  refine G.no rfl ?_
  refine G.skipK hK12 (fun _ _ h => h) ?_
  refine G.seqK fun K17 hK18 => ?_
  refine G.region ?_
  obtain ⟨p19, w20, r21, H22⟩ := H10.alloc (P := Try.prog) 33 [.int .u64 0, .int .u64 0, .int .u64 0, .int .u64 0] (by kernel_rfl)
  have H22 : Hp w [] [.blk p3 [.int .u64 65535, .int .u64 0, .int .u64 0, .int .u64 0] 33, .blk p7 [.int .u64 0, .int .u64 0, .int .u64 0, .int .u64 0] 33, .blk p19 [.int .u64 0, .int .u64 0, .int .u64 0, .int .u64 0] 33] w20 := H22
  refine GL.sem (j := 1) (r21) [1, 2, 4, 5] [(1, .int .i64 208), (2, pt p3 0), (4, pt p7 0), (5, pt p19 0)] (by kernel_rfl) (by kernel_rfl) rfl ?_
  refine GL.k rfl hK18 (fun _ _ h => h) ?_
  refine G.seqK fun K23 hK24 => ?_
  refine G.region ?_
  refine GL.run (j := 6) 6 [2, 4, 5, 6, 7] [(2, pt p3 0), (4, pt p7 0), (5, pt p19 0), (6, .int .i64 3), (7, .int .i64 16)] (by kernel_rfl) rfl ?_
  refine GL.k rfl hK24 (fun _ _ h => h) ?_
  refine G.seqK fun K25 hK26 => ?_
  refine G.seqK fun K27 hK28 => ?_
  refine G.region ?_
  refine GL.run (j := 2) 2 [2, 4, 5, 6, 7, 8] [(2, pt p3 0), (4, pt p7 0), (5, pt p19 0), (6, .int .i64 3), (7, .int .i64 16), (8, .int .i64 3)] (by kernel_rfl) rfl ?_
  refine GL.k rfl hK28 (fun _ _ h => h) ?_
  refine G.block ?_
  refine G.unroll 70 ?_
  refine G.seqK fun K29 hK30 => ?_
  refine G.seqK fun K31 hK32 => ?_
  refine G.region ?_
  refine GL.run (j := 2) 2 [2, 4, 5, 6, 7, 8, 30] [(2, pt p3 0), (4, pt p7 0), (5, pt p19 0), (6, .int .i64 3), (7, .int .i64 16), (8, .int .i64 3), (30, .bool true)] (by kernel_rfl) rfl ?_
  refine GL.k rfl hK32 (fun _ _ h => h) ?_
  refine G.yes rfl ?_
  refine G.skipK hK30 (fun _ _ h => h) ?_
  refine G.seqK fun K33 hK34 => ?_
  refine G.block ?_
  refine G.seqK fun K35 hK36 => ?_
  refine G.region ?_
  refine GL.run (j := 5) 5 [2, 4, 5, 6, 7, 8, 33, 37] [(2, pt p3 0), (4, pt p7 0), (5, pt p19 0), (6, .int .i64 3), (7, .int .i64 16), (8, .int .i64 3), (33, .int .i64 3), (37, pt p3 0)] (by kernel_rfl) rfl ?_
  refine GL.sem (j := 6) (H22.ld (o := 0) (ty := 31) (v := .int .u64 65535) 0 rfl (by kernel_rfl) rfl) [2, 4, 5, 6, 7, 8, 33, 38] [(2, pt p3 0), (4, pt p7 0), (5, pt p19 0), (6, .int .i64 3), (7, .int .i64 16), (8, .int .i64 3), (33, .int .i64 3), (38, .int .u64 65535)] (by kernel_rfl) (by kernel_rfl) rfl ?_
  refine GL.run (j := 9) 3 [2, 4, 5, 6, 7, 8, 40, 41] [(2, pt p3 0), (4, pt p7 0), (5, pt p19 0), (6, .int .i64 3), (7, .int .i64 16), (8, .int .i64 3), (40, .int .u64 4294901760), (41, pt p19 3)] (by kernel_rfl) rfl ?_
  obtain ⟨w37, r38, H39⟩ := H22.st (P := Try.prog) (o := 3) (ty := 31) (v := .int .u64 4294901760) 2 rfl (by kernel_rfl) (by simp) rfl
  have H39 : Hp w [] [.blk p3 [.int .u64 65535, .int .u64 0, .int .u64 0, .int .u64 0] 33, .blk p7 [.int .u64 0, .int .u64 0, .int .u64 0, .int .u64 0] 33, .blk p19 [.int .u64 0, .int .u64 0, .int .u64 0, .int .u64 4294901760] 33] w37 := H39
  refine GL.semU (j := 10) r38 [2, 4, 5, 6, 7, 8] [(2, pt p3 0), (4, pt p7 0), (5, pt p19 0), (6, .int .i64 3), (7, .int .i64 16), (8, .int .i64 3)] (by kernel_rfl) rfl rfl rfl ?_
  refine GL.k rfl hK36 (fun _ _ h => h) ?_
  refine G.seqK fun K40 hK41 => ?_
  refine G.region ?_
  refine GL.run (j := 7) 7 [2, 4, 5, 6, 7, 8, 48] [(2, pt p3 0), (4, pt p7 0), (5, pt p19 0), (6, .int .i64 3), (7, .int .i64 16), (8, .int .i64 3), (48, .bool false)] (by kernel_rfl) rfl ?_
  refine GL.k rfl hK41 (fun _ _ h => h) ?_
  refine G.no rfl ?_
  refine G.skipK hK34 (fun _ _ h => h) ?_
  refine G.region ?_
  refine GL.run (j := 3) 3 [2, 4, 5, 6, 7, 8] [(2, pt p3 0), (4, pt p7 0), (5, pt p19 0), (6, .int .i64 3), (7, .int .i64 16), (8, .int .i64 4)] (by kernel_rfl) rfl ?_
  refine GL.round rfl ?_
  refine G.seqK fun K42 hK43 => ?_
  refine G.seqK fun K44 hK45 => ?_
  refine G.region ?_
  refine GL.run (j := 2) 2 [2, 4, 5, 6, 7, 8, 30] [(2, pt p3 0), (4, pt p7 0), (5, pt p19 0), (6, .int .i64 3), (7, .int .i64 16), (8, .int .i64 4), (30, .bool false)] (by kernel_rfl) rfl ?_
  refine GL.k rfl hK45 (fun _ _ h => h) ?_
  refine G.no rfl ?_
  refine G.exitK hK26 (fun _ _ h => h) ?_
  refine G.seqK fun K46 hK47 => ?_
  refine G.region ?_
  refine GL.sem (j := 1) (H39.ldA (o := 0) (ty := 33) (m := 4) (sub := [.int .u64 0, .int .u64 0, .int .u64 0, .int .u64 4294901760]) 2 rfl (by kernel_rfl) rfl rfl) [4, 63] [(4, pt p7 0), (63, .agg #[.int .u64 0, .int .u64 0, .int .u64 0, .int .u64 4294901760])] (by kernel_rfl) (by kernel_rfl) rfl ?_
  obtain ⟨w48, r49, H50⟩ := H39.stA (P := Try.prog) (o := 0) (vs := [.int .u64 0, .int .u64 0, .int .u64 0, .int .u64 4294901760]) (ty := 33) (m := 4) 1 rfl (by kernel_rfl) rfl (by simp) (by simp [Value.oneCell'])
  have H50 : Hp w [] [.blk p3 [.int .u64 65535, .int .u64 0, .int .u64 0, .int .u64 0] 33, .blk p7 [.int .u64 0, .int .u64 0, .int .u64 0, .int .u64 4294901760] 33, .blk p19 [.int .u64 0, .int .u64 0, .int .u64 0, .int .u64 4294901760] 33] w48 := H50
  refine GL.semU (j := 2) r49 [4] [(4, pt p7 0)] (by kernel_rfl) rfl rfl rfl ?_
  refine GL.k rfl hK47 (fun _ _ h => h) ?_
  refine G.ret ?_
  intro F_ hF_ hM_
  refine hRet _ _ (bodyPost_1 rfl (RV.cell rfl (H50.ldA (o := 0) (ty := 33) (m := 4) (sub := [.int .u64 0, .int .u64 0, .int .u64 0, .int .u64 4294901760]) 1 rfl (by kernel_rfl) rfl rfl)) ?_ F_ hF_ hM_)
  exact ⟨rfl, H50.sub (List.nil_sublist _)⟩
theorem Lit4_calls (w : World) : Calls Try.prog 33 #[.int .u32 486604799] w fun e w' => e = .returned (.tuple #[.agg #[.int .u64 0, .int .u64 0, .int .u64 0, .int .u64 4294901760], .int .i64 0]) ∧ Hp w [] [] w' := by
  refine calls_G (args := [.int .u32 486604799]) Try.func33 rfl Try.ntmps33 rfl ?_
  intro Q0 hRet hNor hPan
  have H := Hp.start w
  have H : Hp w [] [] w := H
  refine G.seqK fun K1 hK2 => ?_
  refine G.region ?_
  obtain ⟨p3, w4, r5, H6⟩ := H.alloc (P := Try.prog) 33 [.int .u64 0, .int .u64 0, .int .u64 0, .int .u64 0] (by kernel_rfl)
  have H6 : Hp w [] [.blk p3 [.int .u64 0, .int .u64 0, .int .u64 0, .int .u64 0] 33] w4 := H6
  refine GL.sem (j := 1) (r5) [0, 2] [(0, .int .u32 486604799), (2, pt p3 0)] (by kernel_rfl) (by kernel_rfl) rfl ?_
  refine GL.run (j := 2) 1 [0, 2] [(0, .int .u32 486604799), (2, pt p3 0)] (by kernel_rfl) rfl ?_
  refine GL.k rfl hK2 (fun _ _ h => h) ?_
  refine G.seqK fun K7 hK8 => ?_
  refine G.region ?_
  refine GL.run (j := 6) 6 [0, 2, 9, 12] [(0, .int .u32 486604799), (2, pt p3 0), (9, .int .i64 29), (12, .int .u64 65535)] (by kernel_rfl) rfl ?_
  refine GL.call (j := 7) (Lit0_calls w4) (by kernel_rfl) rfl (fun e_ w9 hR => ?_)
  obtain ⟨rfl, H11⟩ := hR
  have H10 : Hp w [] [.blk p3 [.int .u64 0, .int .u64 0, .int .u64 0, .int .u64 0] 33] w9 := H6.callNil H11
  refine ⟨_, rfl, [0, 2, 9, 13], [(0, .int .u32 486604799), (2, pt p3 0), (9, .int .i64 29), (13, .agg #[.int .u64 65535, .int .u64 0, .int .u64 0, .int .u64 0])], by kernel_rfl, ?_⟩
  obtain ⟨p12, w13, r14, H15⟩ := H10.alloc (P := Try.prog) 33 [.int .u64 0, .int .u64 0, .int .u64 0, .int .u64 0] (by kernel_rfl)
  have H15 : Hp w [] [.blk p3 [.int .u64 0, .int .u64 0, .int .u64 0, .int .u64 0] 33, .blk p12 [.int .u64 0, .int .u64 0, .int .u64 0, .int .u64 0] 33] w13 := H15
  refine GL.sem (j := 8) (r14) [0, 2, 5, 9, 13] [(0, .int .u32 486604799), (2, pt p3 0), (5, pt p12 0), (9, .int .i64 29), (13, .agg #[.int .u64 65535, .int .u64 0, .int .u64 0, .int .u64 0])] (by kernel_rfl) (by kernel_rfl) rfl ?_
  refine GL.run (j := 9) 1 [0, 2, 4, 5, 13] [(0, .int .u32 486604799), (2, pt p3 0), (4, .int .i64 29), (5, pt p12 0), (13, .agg #[.int .u64 65535, .int .u64 0, .int .u64 0, .int .u64 0])] (by kernel_rfl) rfl ?_
  obtain ⟨w16, r17, H18⟩ := H15.stA (P := Try.prog) (o := 0) (vs := [.int .u64 65535, .int .u64 0, .int .u64 0, .int .u64 0]) (ty := 33) (m := 4) 1 rfl (by kernel_rfl) rfl (by simp) (by simp [Value.oneCell'])
  have H18 : Hp w [] [.blk p3 [.int .u64 0, .int .u64 0, .int .u64 0, .int .u64 0] 33, .blk p12 [.int .u64 65535, .int .u64 0, .int .u64 0, .int .u64 0] 33] w16 := H18
  refine GL.semU (j := 10) r17 [0, 2, 4, 5] [(0, .int .u32 486604799), (2, pt p3 0), (4, .int .i64 29), (5, pt p12 0)] (by kernel_rfl) rfl rfl rfl ?_
  refine GL.k rfl hK8 (fun _ _ h => h) ?_
  refine G.seqK fun K19 hK20 => ?_
  refine G.seqK fun K21 hK22 => ?_
  refine G.region ?_
  refine GL.run (j := 8) 8 [2, 4, 5, 21] [(2, pt p3 0), (4, .int .i64 29), (5, pt p12 0), (21, .bool false)] (by kernel_rfl) rfl ?_
  refine GL.k rfl hK22 (fun _ _ h => h) ?_
  refine G.no rfl ?_
  refine G.skipK hK20 (fun _ _ h => h) ?_
  refine G.seqK fun K23 hK24 => ?_
  refine G.seqK fun K25 hK26 => ?_
  refine G.region ?_
  refine GL.run (j := 3) 3 [2, 4, 5, 25] [(2, pt p3 0), (4, .int .i64 29), (5, pt p12 0), (25, .bool true)] (by kernel_rfl) rfl ?_
  refine GL.sem (j := 4) (H18.ldA (o := 0) (ty := 33) (m := 4) (sub := [.int .u64 65535, .int .u64 0, .int .u64 0, .int .u64 0]) 1 rfl (by kernel_rfl) rfl rfl) [2, 4, 5, 25, 26] [(2, pt p3 0), (4, .int .i64 29), (5, pt p12 0), (25, .bool true), (26, .agg #[.int .u64 65535, .int .u64 0, .int .u64 0, .int .u64 0])] (by kernel_rfl) (by kernel_rfl) rfl ?_
  refine GL.call (j := 5) (Lit2_calls w16) (by kernel_rfl) rfl (fun e_ w27 hR => ?_)
  obtain ⟨rfl, H29⟩ := hR
  have H28 : Hp w [] [.blk p3 [.int .u64 0, .int .u64 0, .int .u64 0, .int .u64 0] 33, .blk p12 [.int .u64 65535, .int .u64 0, .int .u64 0, .int .u64 0] 33] w27 := H18.callNil H29
  refine ⟨_, rfl, [2, 4, 5, 25, 27], [(2, pt p3 0), (4, .int .i64 29), (5, pt p12 0), (25, .bool true), (27, .int .i64 16)], by kernel_rfl, ?_⟩
  refine GL.run (j := 11) 6 [2, 4, 5, 33] [(2, pt p3 0), (4, .int .i64 29), (5, pt p12 0), (33, .bool false)] (by kernel_rfl) rfl ?_
  refine GL.k rfl hK26 (fun _ _ h => h) ?_
  refine G.no rfl ?_
  refine G.skipK hK24 (fun _ _ h => h) ?_
  refine G.seqK fun K30 hK31 => ?_
  refine G.region ?_
  refine GL.sem (j := 1) (H28.ldA (o := 0) (ty := 33) (m := 4) (sub := [.int .u64 65535, .int .u64 0, .int .u64 0, .int .u64 0]) 1 rfl (by kernel_rfl) rfl rfl) [2, 4, 35] [(2, pt p3 0), (4, .int .i64 29), (35, .agg #[.int .u64 65535, .int .u64 0, .int .u64 0, .int .u64 0])] (by kernel_rfl) (by kernel_rfl) rfl ?_
  refine GL.run (j := 4) 3 [2, 35, 38] [(2, pt p3 0), (35, .agg #[.int .u64 65535, .int .u64 0, .int .u64 0, .int .u64 0]), (38, .int .i64 208)] (by kernel_rfl) rfl ?_
  refine GL.call (j := 5) (Lit3_calls w27) (by kernel_rfl) rfl (fun e_ w32 hR => ?_)
  obtain ⟨rfl, H34⟩ := hR
  have H33 : Hp w [] [.blk p3 [.int .u64 0, .int .u64 0, .int .u64 0, .int .u64 0] 33, .blk p12 [.int .u64 65535, .int .u64 0, .int .u64 0, .int .u64 0] 33] w32 := H28.callNil H34
  refine ⟨_, rfl, [2, 39], [(2, pt p3 0), (39, .agg #[.int .u64 0, .int .u64 0, .int .u64 0, .int .u64 4294901760])], by kernel_rfl, ?_⟩
  obtain ⟨p35, w36, r37, H38⟩ := H33.alloc (P := Try.prog) 33 [.int .u64 0, .int .u64 0, .int .u64 0, .int .u64 0] (by kernel_rfl)
  have H38 : Hp w [] [.blk p3 [.int .u64 0, .int .u64 0, .int .u64 0, .int .u64 0] 33, .blk p12 [.int .u64 65535, .int .u64 0, .int .u64 0, .int .u64 0] 33, .blk p35 [.int .u64 0, .int .u64 0, .int .u64 0, .int .u64 0] 33] w36 := H38
  refine GL.sem (j := 6) (r37) [2, 6, 39] [(2, pt p3 0), (6, pt p35 0), (39, .agg #[.int .u64 0, .int .u64 0, .int .u64 0, .int .u64 4294901760])] (by kernel_rfl) (by kernel_rfl) rfl ?_
  obtain ⟨w39, r40, H41⟩ := H38.stA (P := Try.prog) (o := 0) (vs := [.int .u64 0, .int .u64 0, .int .u64 0, .int .u64 4294901760]) (ty := 33) (m := 4) 2 rfl (by kernel_rfl) rfl (by simp) (by simp [Value.oneCell'])
  have H41 : Hp w [] [.blk p3 [.int .u64 0, .int .u64 0, .int .u64 0, .int .u64 0] 33, .blk p12 [.int .u64 65535, .int .u64 0, .int .u64 0, .int .u64 0] 33, .blk p35 [.int .u64 0, .int .u64 0, .int .u64 0, .int .u64 4294901760] 33] w39 := H41
  refine GL.semU (j := 7) r40 [2, 6] [(2, pt p3 0), (6, pt p35 0)] (by kernel_rfl) rfl rfl rfl ?_
  refine GL.k rfl hK31 (fun _ _ h => h) ?_
  refine G.seqK fun K42 hK43 => ?_
  refine G.seqK fun K44 hK45 => ?_
  refine G.region ?_
  refine GL.sem (j := 1) (H41.ldA (o := 0) (ty := 33) (m := 4) (sub := [.int .u64 0, .int .u64 0, .int .u64 0, .int .u64 4294901760]) 2 rfl (by kernel_rfl) rfl rfl) [2, 6, 40] [(2, pt p3 0), (6, pt p35 0), (40, .agg #[.int .u64 0, .int .u64 0, .int .u64 0, .int .u64 4294901760])] (by kernel_rfl) (by kernel_rfl) rfl ?_
  refine GL.run (j := 2) 1 [2, 6, 40, 41] [(2, pt p3 0), (6, pt p35 0), (40, .agg #[.int .u64 0, .int .u64 0, .int .u64 0, .int .u64 4294901760]), (41, .agg #[.int .u64 0, .int .u64 0, .int .u64 0, .int .u64 0])] (by kernel_rfl) rfl ?_
  refine GL.sem (j := 3) (run_arr_eql (P := Try.prog) (t := 33) (n := 4) (k := .u64) (x := (.tmp 40)) (y := (.tmp 41)) (by kernel_rfl) [0, 0, 0, 4294901760] [0, 0, 0, 0] rfl rfl _) [2, 6, 42] [(2, pt p3 0), (6, pt p35 0), (42, .bool false)] (by kernel_rfl) (by kernel_rfl) rfl ?_
  refine GL.k rfl hK45 (fun _ _ h => h) ?_
  refine G.no rfl ?_
  refine G.skipK hK43 (fun _ _ h => h) ?_
  refine G.seqK fun K46 hK47 => ?_
  refine G.region ?_
  refine GL.sem (j := 1) (H41.ldA (o := 0) (ty := 33) (m := 4) (sub := [.int .u64 0, .int .u64 0, .int .u64 0, .int .u64 4294901760]) 2 rfl (by kernel_rfl) rfl rfl) [2, 44] [(2, pt p3 0), (44, .agg #[.int .u64 0, .int .u64 0, .int .u64 0, .int .u64 4294901760])] (by kernel_rfl) (by kernel_rfl) rfl ?_
  obtain ⟨w48, r49, H50⟩ := H41.stA (P := Try.prog) (o := 0) (vs := [.int .u64 0, .int .u64 0, .int .u64 0, .int .u64 4294901760]) (ty := 33) (m := 4) 0 rfl (by kernel_rfl) rfl (by simp) (by simp [Value.oneCell'])
  have H50 : Hp w [] [.blk p3 [.int .u64 0, .int .u64 0, .int .u64 0, .int .u64 4294901760] 33, .blk p12 [.int .u64 65535, .int .u64 0, .int .u64 0, .int .u64 0] 33, .blk p35 [.int .u64 0, .int .u64 0, .int .u64 0, .int .u64 4294901760] 33] w48 := H50
  refine GL.semU (j := 2) r49 [2] [(2, pt p3 0)] (by kernel_rfl) rfl rfl rfl ?_
  refine GL.run (j := 3) 1 [2, 3] [(2, pt p3 0), (3, .int .i64 0)] (by kernel_rfl) rfl ?_
  refine GL.k rfl hK47 (fun _ _ h => h) ?_
  refine G.ret ?_
  intro F_ hF_ hM_
  refine hRet _ _ (bodyPost_2 rfl (RV.cell rfl (H50.ldA (o := 0) (ty := 33) (m := 4) (sub := [.int .u64 0, .int .u64 0, .int .u64 0, .int .u64 4294901760]) 0 rfl (by kernel_rfl) rfl rfl)) (RV.tmp rfl) ?_ F_ hF_ hM_)
  exact ⟨rfl, H50.sub (List.nil_sublist _)⟩
theorem Lit5_calls (w : World) : Calls Try.prog 34 #[.agg #[.int .u64 0, .int .u64 0, .int .u64 0, .int .u64 4294901760], .agg #[.int .u64 18446744073709551615, .int .u64 18446744073709551615, .int .u64 18446744073709551615, .int .u64 18446744073709551615]] w fun e w' => e = .returned (.int .i64 (-1)) ∧ Hp w [] [] w' := by
  refine calls_G (args := [.agg #[.int .u64 0, .int .u64 0, .int .u64 0, .int .u64 4294901760], .agg #[.int .u64 18446744073709551615, .int .u64 18446744073709551615, .int .u64 18446744073709551615, .int .u64 18446744073709551615]]) Try.func34 rfl Try.ntmps34 rfl ?_
  intro Q0 hRet hNor hPan
  have H := Hp.start w
  have H : Hp w [] [] w := H
  refine G.seqK fun K1 hK2 => ?_
  refine G.region ?_
  obtain ⟨p3, w4, r5, H6⟩ := H.box (P := Try.prog) 33 [.int .u64 0, .int .u64 0, .int .u64 0, .int .u64 4294901760] (.agg #[.int .u64 0, .int .u64 0, .int .u64 0, .int .u64 4294901760]) rfl
  have H6 : Hp w [] [.blk p3 [.int .u64 0, .int .u64 0, .int .u64 0, .int .u64 4294901760] 33] w4 := H6
  refine GL.sem (j := 1) (r5) [1, 2] [(1, .agg #[.int .u64 18446744073709551615, .int .u64 18446744073709551615, .int .u64 18446744073709551615, .int .u64 18446744073709551615]), (2, pt p3 0)] (by kernel_rfl) (by kernel_rfl) rfl ?_
  obtain ⟨p7, w8, r9, H10⟩ := H6.box (P := Try.prog) 33 [.int .u64 18446744073709551615, .int .u64 18446744073709551615, .int .u64 18446744073709551615, .int .u64 18446744073709551615] (.agg #[.int .u64 18446744073709551615, .int .u64 18446744073709551615, .int .u64 18446744073709551615, .int .u64 18446744073709551615]) rfl
  have H10 : Hp w [] [.blk p3 [.int .u64 0, .int .u64 0, .int .u64 0, .int .u64 4294901760] 33, .blk p7 [.int .u64 18446744073709551615, .int .u64 18446744073709551615, .int .u64 18446744073709551615, .int .u64 18446744073709551615] 33] w8 := H10
  refine GL.sem (j := 2) (r9) [2, 3] [(2, pt p3 0), (3, pt p7 0)] (by kernel_rfl) (by kernel_rfl) rfl ?_
  refine GL.run (j := 3) 1 [2, 3] [(2, pt p3 0), (3, pt p7 0)] (by kernel_rfl) rfl ?_
  refine GL.k rfl hK2 (fun _ _ h => h) ?_
  refine G.seqK fun K11 hK12 => ?_
  refine G.seqK fun K13 hK14 => ?_
  refine G.region ?_
  refine GL.run (j := 1) 1 [2, 3, 5] [(2, pt p3 0), (3, pt p7 0), (5, .int .i64 3)] (by kernel_rfl) rfl ?_
  refine GL.k rfl hK14 (fun _ _ h => h) ?_
  refine G.block ?_
  refine G.unroll 70 ?_
  refine G.seqK fun K15 hK16 => ?_
  refine G.seqK fun K17 hK18 => ?_
  refine G.region ?_
  refine GL.run (j := 2) 2 [2, 3, 5, 7] [(2, pt p3 0), (3, pt p7 0), (5, .int .i64 3), (7, .bool true)] (by kernel_rfl) rfl ?_
  refine GL.k rfl hK18 (fun _ _ h => h) ?_
  refine G.yes rfl ?_
  refine G.skipK hK16 (fun _ _ h => h) ?_
  refine G.seqK fun K19 hK20 => ?_
  refine G.block ?_
  refine G.block ?_
  refine G.seqK fun K21 hK22 => ?_
  refine G.draw H10 (by kernel_rfl) (by kernel_rfl) ?_
  refine GQ.run (j := 2) 2 [2, 3, 5, 12] [(2, pt p3 0), (3, pt p7 0), (5, .int .i64 3), (12, pt p3 3)] (by kernel_rfl) rfl ?_
  refine GQ.sem (j := 3) (fun w_ H_ => H_.ld (o := 3) (ty := 31) (v := .int .u64 4294901760) 0 rfl (by kernel_rfl) rfl) [2, 3, 5, 13] [(2, pt p3 0), (3, pt p7 0), (5, .int .i64 3), (13, .int .u64 4294901760)] (by kernel_rfl) (by kernel_rfl) rfl ?_
  refine GQ.run (j := 5) 2 [2, 3, 5, 13, 15] [(2, pt p3 0), (3, pt p7 0), (5, .int .i64 3), (13, .int .u64 4294901760), (15, pt p7 3)] (by kernel_rfl) rfl ?_
  refine GQ.sem (j := 6) (fun w_ H_ => H_.ld (o := 3) (ty := 31) (v := .int .u64 18446744073709551615) 1 rfl (by kernel_rfl) rfl) [2, 3, 5, 13, 16] [(2, pt p3 0), (3, pt p7 0), (5, .int .i64 3), (13, .int .u64 4294901760), (16, .int .u64 18446744073709551615)] (by kernel_rfl) (by kernel_rfl) rfl ?_
  refine GQ.run (j := 8) 2 [2, 3, 5, 10] [(2, pt p3 0), (3, pt p7 0), (5, .int .i64 3), (10, .bool true)] (by kernel_rfl) rfl ?_
  refine GQ.k rfl hK22 (fun _ _ h => h) (fun w23 H24 => ?_)
  refine G.yes rfl ?_
  refine G.seqK fun K25 hK26 => ?_
  refine G.region ?_
  refine GL.run (j := 1) 1 [4] [(4, .int .i64 (-1))] (by kernel_rfl) rfl ?_
  refine GL.k rfl hK26 (fun _ _ h => h) ?_
  refine G.ret ?_
  intro F_ hF_ hM_
  refine hRet _ _ (bodyPost_1 rfl (RV.tmp rfl) ?_ F_ hF_ hM_)
  exact ⟨rfl, H24.sub (List.nil_sublist _)⟩
theorem Lit6_calls (w : World) : Calls Try.prog 34 #[.agg #[.int .u64 8265215505318339183, .int .u64 5762183848404362945, .int .u64 11243336393847676563, .int .u64 1693288], .agg #[.int .u64 0, .int .u64 0, .int .u64 0, .int .u64 4294901760]] w fun e w' => e = .returned (.int .i64 (-1)) ∧ Hp w [] [] w' := by
  refine calls_G (args := [.agg #[.int .u64 8265215505318339183, .int .u64 5762183848404362945, .int .u64 11243336393847676563, .int .u64 1693288], .agg #[.int .u64 0, .int .u64 0, .int .u64 0, .int .u64 4294901760]]) Try.func34 rfl Try.ntmps34 rfl ?_
  intro Q0 hRet hNor hPan
  have H := Hp.start w
  have H : Hp w [] [] w := H
  refine G.seqK fun K1 hK2 => ?_
  refine G.region ?_
  obtain ⟨p3, w4, r5, H6⟩ := H.box (P := Try.prog) 33 [.int .u64 8265215505318339183, .int .u64 5762183848404362945, .int .u64 11243336393847676563, .int .u64 1693288] (.agg #[.int .u64 8265215505318339183, .int .u64 5762183848404362945, .int .u64 11243336393847676563, .int .u64 1693288]) rfl
  have H6 : Hp w [] [.blk p3 [.int .u64 8265215505318339183, .int .u64 5762183848404362945, .int .u64 11243336393847676563, .int .u64 1693288] 33] w4 := H6
  refine GL.sem (j := 1) (r5) [1, 2] [(1, .agg #[.int .u64 0, .int .u64 0, .int .u64 0, .int .u64 4294901760]), (2, pt p3 0)] (by kernel_rfl) (by kernel_rfl) rfl ?_
  obtain ⟨p7, w8, r9, H10⟩ := H6.box (P := Try.prog) 33 [.int .u64 0, .int .u64 0, .int .u64 0, .int .u64 4294901760] (.agg #[.int .u64 0, .int .u64 0, .int .u64 0, .int .u64 4294901760]) rfl
  have H10 : Hp w [] [.blk p3 [.int .u64 8265215505318339183, .int .u64 5762183848404362945, .int .u64 11243336393847676563, .int .u64 1693288] 33, .blk p7 [.int .u64 0, .int .u64 0, .int .u64 0, .int .u64 4294901760] 33] w8 := H10
  refine GL.sem (j := 2) (r9) [2, 3] [(2, pt p3 0), (3, pt p7 0)] (by kernel_rfl) (by kernel_rfl) rfl ?_
  refine GL.run (j := 3) 1 [2, 3] [(2, pt p3 0), (3, pt p7 0)] (by kernel_rfl) rfl ?_
  refine GL.k rfl hK2 (fun _ _ h => h) ?_
  refine G.seqK fun K11 hK12 => ?_
  refine G.seqK fun K13 hK14 => ?_
  refine G.region ?_
  refine GL.run (j := 1) 1 [2, 3, 5] [(2, pt p3 0), (3, pt p7 0), (5, .int .i64 3)] (by kernel_rfl) rfl ?_
  refine GL.k rfl hK14 (fun _ _ h => h) ?_
  refine G.block ?_
  refine G.unroll 70 ?_
  refine G.seqK fun K15 hK16 => ?_
  refine G.seqK fun K17 hK18 => ?_
  refine G.region ?_
  refine GL.run (j := 2) 2 [2, 3, 5, 7] [(2, pt p3 0), (3, pt p7 0), (5, .int .i64 3), (7, .bool true)] (by kernel_rfl) rfl ?_
  refine GL.k rfl hK18 (fun _ _ h => h) ?_
  refine G.yes rfl ?_
  refine G.skipK hK16 (fun _ _ h => h) ?_
  refine G.seqK fun K19 hK20 => ?_
  refine G.block ?_
  refine G.block ?_
  refine G.seqK fun K21 hK22 => ?_
  refine G.draw H10 (by kernel_rfl) (by kernel_rfl) ?_
  refine GQ.run (j := 2) 2 [2, 3, 5, 12] [(2, pt p3 0), (3, pt p7 0), (5, .int .i64 3), (12, pt p3 3)] (by kernel_rfl) rfl ?_
  refine GQ.sem (j := 3) (fun w_ H_ => H_.ld (o := 3) (ty := 31) (v := .int .u64 1693288) 0 rfl (by kernel_rfl) rfl) [2, 3, 5, 13] [(2, pt p3 0), (3, pt p7 0), (5, .int .i64 3), (13, .int .u64 1693288)] (by kernel_rfl) (by kernel_rfl) rfl ?_
  refine GQ.run (j := 5) 2 [2, 3, 5, 13, 15] [(2, pt p3 0), (3, pt p7 0), (5, .int .i64 3), (13, .int .u64 1693288), (15, pt p7 3)] (by kernel_rfl) rfl ?_
  refine GQ.sem (j := 6) (fun w_ H_ => H_.ld (o := 3) (ty := 31) (v := .int .u64 4294901760) 1 rfl (by kernel_rfl) rfl) [2, 3, 5, 13, 16] [(2, pt p3 0), (3, pt p7 0), (5, .int .i64 3), (13, .int .u64 1693288), (16, .int .u64 4294901760)] (by kernel_rfl) (by kernel_rfl) rfl ?_
  refine GQ.run (j := 8) 2 [2, 3, 5, 10] [(2, pt p3 0), (3, pt p7 0), (5, .int .i64 3), (10, .bool true)] (by kernel_rfl) rfl ?_
  refine GQ.k rfl hK22 (fun _ _ h => h) (fun w23 H24 => ?_)
  refine G.yes rfl ?_
  refine G.seqK fun K25 hK26 => ?_
  refine G.region ?_
  refine GL.run (j := 1) 1 [4] [(4, .int .i64 (-1))] (by kernel_rfl) rfl ?_
  refine GL.k rfl hK26 (fun _ _ h => h) ?_
  refine G.ret ?_
  intro F_ hF_ hM_
  refine hRet _ _ (bodyPost_1 rfl (RV.tmp rfl) ?_ F_ hF_ hM_)
  exact ⟨rfl, H24.sub (List.nil_sublist _)⟩
theorem Lit7_calls (w : World) : Calls Try.prog 35 #[.agg #[.int .u8 111, .int .u8 226, .int .u8 140, .int .u8 10, .int .u8 182, .int .u8 241, .int .u8 179, .int .u8 114, .int .u8 193, .int .u8 166, .int .u8 162, .int .u8 70, .int .u8 174, .int .u8 99, .int .u8 247, .int .u8 79, .int .u8 147, .int .u8 30, .int .u8 131, .int .u8 101, .int .u8 225, .int .u8 90, .int .u8 8, .int .u8 156, .int .u8 104, .int .u8 214, .int .u8 25, .int .u8 0, .int .u8 0, .int .u8 0, .int .u8 0, .int .u8 0], .agg #[.int .u64 0, .int .u64 0, .int .u64 0, .int .u64 4294901760]] w fun e w' => e = .returned (.bool true) ∧ Hp w [] [] w' := by
  refine calls_G (args := [.agg #[.int .u8 111, .int .u8 226, .int .u8 140, .int .u8 10, .int .u8 182, .int .u8 241, .int .u8 179, .int .u8 114, .int .u8 193, .int .u8 166, .int .u8 162, .int .u8 70, .int .u8 174, .int .u8 99, .int .u8 247, .int .u8 79, .int .u8 147, .int .u8 30, .int .u8 131, .int .u8 101, .int .u8 225, .int .u8 90, .int .u8 8, .int .u8 156, .int .u8 104, .int .u8 214, .int .u8 25, .int .u8 0, .int .u8 0, .int .u8 0, .int .u8 0, .int .u8 0], .agg #[.int .u64 0, .int .u64 0, .int .u64 0, .int .u64 4294901760]]) Try.func35 rfl Try.ntmps35 rfl ?_
  intro Q0 hRet hNor hPan
  have H := Hp.start w
  have H : Hp w [] [] w := H
  refine G.seqK fun K1 hK2 => ?_
  refine G.region ?_
  obtain ⟨p3, w4, r5, H6⟩ := H.box (P := Try.prog) 24 [.int .u8 111, .int .u8 226, .int .u8 140, .int .u8 10, .int .u8 182, .int .u8 241, .int .u8 179, .int .u8 114, .int .u8 193, .int .u8 166, .int .u8 162, .int .u8 70, .int .u8 174, .int .u8 99, .int .u8 247, .int .u8 79, .int .u8 147, .int .u8 30, .int .u8 131, .int .u8 101, .int .u8 225, .int .u8 90, .int .u8 8, .int .u8 156, .int .u8 104, .int .u8 214, .int .u8 25, .int .u8 0, .int .u8 0, .int .u8 0, .int .u8 0, .int .u8 0] (.agg #[.int .u8 111, .int .u8 226, .int .u8 140, .int .u8 10, .int .u8 182, .int .u8 241, .int .u8 179, .int .u8 114, .int .u8 193, .int .u8 166, .int .u8 162, .int .u8 70, .int .u8 174, .int .u8 99, .int .u8 247, .int .u8 79, .int .u8 147, .int .u8 30, .int .u8 131, .int .u8 101, .int .u8 225, .int .u8 90, .int .u8 8, .int .u8 156, .int .u8 104, .int .u8 214, .int .u8 25, .int .u8 0, .int .u8 0, .int .u8 0, .int .u8 0, .int .u8 0]) rfl
  have H6 : Hp w [] [.blk p3 [.int .u8 111, .int .u8 226, .int .u8 140, .int .u8 10, .int .u8 182, .int .u8 241, .int .u8 179, .int .u8 114, .int .u8 193, .int .u8 166, .int .u8 162, .int .u8 70, .int .u8 174, .int .u8 99, .int .u8 247, .int .u8 79, .int .u8 147, .int .u8 30, .int .u8 131, .int .u8 101, .int .u8 225, .int .u8 90, .int .u8 8, .int .u8 156, .int .u8 104, .int .u8 214, .int .u8 25, .int .u8 0, .int .u8 0, .int .u8 0, .int .u8 0, .int .u8 0] 24] w4 := H6
  refine GL.sem (j := 1) (r5) [1, 2] [(1, .agg #[.int .u64 0, .int .u64 0, .int .u64 0, .int .u64 4294901760]), (2, pt p3 0)] (by kernel_rfl) (by kernel_rfl) rfl ?_
  obtain ⟨p7, w8, r9, H10⟩ := H6.box (P := Try.prog) 33 [.int .u64 0, .int .u64 0, .int .u64 0, .int .u64 4294901760] (.agg #[.int .u64 0, .int .u64 0, .int .u64 0, .int .u64 4294901760]) rfl
  have H10 : Hp w [] [.blk p3 [.int .u8 111, .int .u8 226, .int .u8 140, .int .u8 10, .int .u8 182, .int .u8 241, .int .u8 179, .int .u8 114, .int .u8 193, .int .u8 166, .int .u8 162, .int .u8 70, .int .u8 174, .int .u8 99, .int .u8 247, .int .u8 79, .int .u8 147, .int .u8 30, .int .u8 131, .int .u8 101, .int .u8 225, .int .u8 90, .int .u8 8, .int .u8 156, .int .u8 104, .int .u8 214, .int .u8 25, .int .u8 0, .int .u8 0, .int .u8 0, .int .u8 0, .int .u8 0] 24, .blk p7 [.int .u64 0, .int .u64 0, .int .u64 0, .int .u64 4294901760] 33] w8 := H10
  refine GL.sem (j := 2) (r9) [2, 3] [(2, pt p3 0), (3, pt p7 0)] (by kernel_rfl) (by kernel_rfl) rfl ?_
  refine GL.run (j := 3) 1 [2, 3] [(2, pt p3 0), (3, pt p7 0)] (by kernel_rfl) rfl ?_
  refine GL.k rfl hK2 (fun _ _ h => h) ?_
  refine G.seqK fun K11 hK12 => ?_
  refine G.heldP (Hp w [] [.blk p3 [.int .u8 111, .int .u8 226, .int .u8 140, .int .u8 10, .int .u8 182, .int .u8 241, .int .u8 179, .int .u8 114, .int .u8 193, .int .u8 166, .int .u8 162, .int .u8 70, .int .u8 174, .int .u8 99, .int .u8 247, .int .u8 79, .int .u8 147, .int .u8 30, .int .u8 131, .int .u8 101, .int .u8 225, .int .u8 90, .int .u8 8, .int .u8 156, .int .u8 104, .int .u8 214, .int .u8 25, .int .u8 0, .int .u8 0, .int .u8 0, .int .u8 0, .int .u8 0] 24, .blk p7 [.int .u64 0, .int .u64 0, .int .u64 0, .int .u64 4294901760] 33]) (by kernel_rfl) (by kernel_rfl) (fun c_ a_ d_ v_ w_ h_ => hPan c_ a_ d_ v_ w_ h_) ?_
  have H13 := H10.drew
  generalize ({ w8 with drawn := w8.drawn + 1 } : World) = w14 at H13 ⊢
  have hS15 : Hp w [] [.blk p3 [.int .u8 111, .int .u8 226, .int .u8 140, .int .u8 10, .int .u8 182, .int .u8 241, .int .u8 179, .int .u8 114, .int .u8 193, .int .u8 166, .int .u8 162, .int .u8 70, .int .u8 174, .int .u8 99, .int .u8 247, .int .u8 79, .int .u8 147, .int .u8 30, .int .u8 131, .int .u8 101, .int .u8 225, .int .u8 90, .int .u8 8, .int .u8 156, .int .u8 104, .int .u8 214, .int .u8 25, .int .u8 0, .int .u8 0, .int .u8 0, .int .u8 0, .int .u8 0] 24, .blk p7 [.int .u64 0, .int .u64 0, .int .u64 0, .int .u64 4294901760] 33] w14 := H13.sub (List.Sublist.cons_cons _ (List.Sublist.cons_cons _ (List.Sublist.slnil)))
  refine GP.sem 0 (fun w_ H_ => H_.ldA (o := 0) (ty := 24) (m := 32) (sub := [.int .u8 111, .int .u8 226, .int .u8 140, .int .u8 10, .int .u8 182, .int .u8 241, .int .u8 179, .int .u8 114, .int .u8 193, .int .u8 166, .int .u8 162, .int .u8 70, .int .u8 174, .int .u8 99, .int .u8 247, .int .u8 79, .int .u8 147, .int .u8 30, .int .u8 131, .int .u8 101, .int .u8 225, .int .u8 90, .int .u8 8, .int .u8 156, .int .u8 104, .int .u8 214, .int .u8 25, .int .u8 0, .int .u8 0, .int .u8 0, .int .u8 0, .int .u8 0]) 0 rfl (by kernel_rfl) rfl rfl) [3, 5] [(3, pt p7 0), (5, .agg #[.int .u8 111, .int .u8 226, .int .u8 140, .int .u8 10, .int .u8 182, .int .u8 241, .int .u8 179, .int .u8 114, .int .u8 193, .int .u8 166, .int .u8 162, .int .u8 70, .int .u8 174, .int .u8 99, .int .u8 247, .int .u8 79, .int .u8 147, .int .u8 30, .int .u8 131, .int .u8 101, .int .u8 225, .int .u8 90, .int .u8 8, .int .u8 156, .int .u8 104, .int .u8 214, .int .u8 25, .int .u8 0, .int .u8 0, .int .u8 0, .int .u8 0, .int .u8 0])] (by kernel_rfl) (by kernel_rfl) (by kernel_rfl) hS15 ?_
  refine GP.sem 2 (fun w_ H_ => H_.ldA (o := 0) (ty := 33) (m := 4) (sub := [.int .u64 0, .int .u64 0, .int .u64 0, .int .u64 4294901760]) 1 rfl (by kernel_rfl) rfl rfl) [5, 7] [(5, .agg #[.int .u8 111, .int .u8 226, .int .u8 140, .int .u8 10, .int .u8 182, .int .u8 241, .int .u8 179, .int .u8 114, .int .u8 193, .int .u8 166, .int .u8 162, .int .u8 70, .int .u8 174, .int .u8 99, .int .u8 247, .int .u8 79, .int .u8 147, .int .u8 30, .int .u8 131, .int .u8 101, .int .u8 225, .int .u8 90, .int .u8 8, .int .u8 156, .int .u8 104, .int .u8 214, .int .u8 25, .int .u8 0, .int .u8 0, .int .u8 0, .int .u8 0, .int .u8 0]), (7, .agg #[.int .u64 0, .int .u64 0, .int .u64 0, .int .u64 4294901760])] (by kernel_rfl) (by kernel_rfl) (by kernel_rfl) hS15 ?_
  refine GP.call 1 ((by have h_ := FromBytes_calls (fun i => (([111, 226, 140, 10, 182, 241, 179, 114, 193, 166, 162, 70, 174, 99, 247, 79, 147, 30, 131, 101, 225, 90, 8, 156, 104, 214, 25, 0, 0, 0, 0, 0] : List UInt8).getD i 0).toNat) (fun i => UInt8.toNat_lt _) w14; rw [first_num] at h_; exact h_)) (by kernel_rfl) (by kernel_rfl) (fun e_ w16 hR => ?_)
  obtain ⟨rfl, H18⟩ := hR
  have H17 : Hp w [] [.blk p3 [.int .u8 111, .int .u8 226, .int .u8 140, .int .u8 10, .int .u8 182, .int .u8 241, .int .u8 179, .int .u8 114, .int .u8 193, .int .u8 166, .int .u8 162, .int .u8 70, .int .u8 174, .int .u8 99, .int .u8 247, .int .u8 79, .int .u8 147, .int .u8 30, .int .u8 131, .int .u8 101, .int .u8 225, .int .u8 90, .int .u8 8, .int .u8 156, .int .u8 104, .int .u8 214, .int .u8 25, .int .u8 0, .int .u8 0, .int .u8 0, .int .u8 0, .int .u8 0] 24, .blk p7 [.int .u64 0, .int .u64 0, .int .u64 0, .int .u64 4294901760] 33] w16 := H13.callNil H18
  have hS19 : Hp w [] [.blk p3 [.int .u8 111, .int .u8 226, .int .u8 140, .int .u8 10, .int .u8 182, .int .u8 241, .int .u8 179, .int .u8 114, .int .u8 193, .int .u8 166, .int .u8 162, .int .u8 70, .int .u8 174, .int .u8 99, .int .u8 247, .int .u8 79, .int .u8 147, .int .u8 30, .int .u8 131, .int .u8 101, .int .u8 225, .int .u8 90, .int .u8 8, .int .u8 156, .int .u8 104, .int .u8 214, .int .u8 25, .int .u8 0, .int .u8 0, .int .u8 0, .int .u8 0, .int .u8 0] 24, .blk p7 [.int .u64 0, .int .u64 0, .int .u64 0, .int .u64 4294901760] 33] w16 := H17.sub (List.Sublist.cons_cons _ (List.Sublist.cons_cons _ (List.Sublist.slnil)))
  refine ⟨_, rfl, hS19, [6, 7], [(6, .agg #[.int .u64 8265215505318339183, .int .u64 5762183848404362945, .int .u64 11243336393847676563, .int .u64 1693288]), (7, .agg #[.int .u64 0, .int .u64 0, .int .u64 0, .int .u64 4294901760])], by kernel_rfl, ?_⟩
  refine GP.call 3 (Lit6_calls w16) (by kernel_rfl) (by kernel_rfl) (fun e_ w20 hR => ?_)
  obtain ⟨rfl, H22⟩ := hR
  have H21 : Hp w [] [.blk p3 [.int .u8 111, .int .u8 226, .int .u8 140, .int .u8 10, .int .u8 182, .int .u8 241, .int .u8 179, .int .u8 114, .int .u8 193, .int .u8 166, .int .u8 162, .int .u8 70, .int .u8 174, .int .u8 99, .int .u8 247, .int .u8 79, .int .u8 147, .int .u8 30, .int .u8 131, .int .u8 101, .int .u8 225, .int .u8 90, .int .u8 8, .int .u8 156, .int .u8 104, .int .u8 214, .int .u8 25, .int .u8 0, .int .u8 0, .int .u8 0, .int .u8 0, .int .u8 0] 24, .blk p7 [.int .u64 0, .int .u64 0, .int .u64 0, .int .u64 4294901760] 33] w20 := H17.callNil H22
  have hS23 : Hp w [] [.blk p3 [.int .u8 111, .int .u8 226, .int .u8 140, .int .u8 10, .int .u8 182, .int .u8 241, .int .u8 179, .int .u8 114, .int .u8 193, .int .u8 166, .int .u8 162, .int .u8 70, .int .u8 174, .int .u8 99, .int .u8 247, .int .u8 79, .int .u8 147, .int .u8 30, .int .u8 131, .int .u8 101, .int .u8 225, .int .u8 90, .int .u8 8, .int .u8 156, .int .u8 104, .int .u8 214, .int .u8 25, .int .u8 0, .int .u8 0, .int .u8 0, .int .u8 0, .int .u8 0] 24, .blk p7 [.int .u64 0, .int .u64 0, .int .u64 0, .int .u64 4294901760] 33] w20 := H21.sub (List.Sublist.cons_cons _ (List.Sublist.cons_cons _ (List.Sublist.slnil)))
  refine ⟨_, rfl, hS23, [8], [(8, .int .i64 (-1))], by kernel_rfl, ?_⟩
  refine GP.run [4, 5] [4] [(4, .bool true)] [0, 2, 1, 3, 4, 5] (by kernel_rfl) rfl hS23 ?_
  refine GP.k (by kernel_rfl) hK12 (fun _ _ h => h) ?_
  refine G.ret ?_
  intro F_ hF_ hM_
  refine hRet _ _ (bodyPost_1 rfl (RV.tmp rfl) ?_ F_ hF_ hM_)
  exact ⟨rfl, H21.sub (List.nil_sublist _)⟩
theorem Lit8_calls (w : World) : Calls Try.prog 16 #[.agg #[.int .u64 0, .int .u64 0, .int .u64 0, .int .u64 0]] w fun e w' => e = .returned (.agg #[.int .u64 18446744073709551615, .int .u64 18446744073709551615, .int .u64 18446744073709551615, .int .u64 18446744073709551615]) ∧ Hp w [] [] w' := by
  refine calls_G (args := [.agg #[.int .u64 0, .int .u64 0, .int .u64 0, .int .u64 0]]) Try.func16 rfl Try.ntmps16 rfl ?_
  intro Q0 hRet hNor hPan
  have H := Hp.start w
  have H : Hp w [] [] w := H
  refine G.seqK fun K1 hK2 => ?_
  refine G.region ?_
  obtain ⟨p3, w4, r5, H6⟩ := H.box (P := Try.prog) 33 [.int .u64 0, .int .u64 0, .int .u64 0, .int .u64 0] (.agg #[.int .u64 0, .int .u64 0, .int .u64 0, .int .u64 0]) rfl
  have H6 : Hp w [] [.blk p3 [.int .u64 0, .int .u64 0, .int .u64 0, .int .u64 0] 33] w4 := H6
  refine GL.sem (j := 1) (r5) [1] [(1, pt p3 0)] (by kernel_rfl) (by kernel_rfl) rfl ?_
  obtain ⟨p7, w8, r9, H10⟩ := H6.alloc (P := Try.prog) 33 [.int .u64 0, .int .u64 0, .int .u64 0, .int .u64 0] (by kernel_rfl)
  have H10 : Hp w [] [.blk p3 [.int .u64 0, .int .u64 0, .int .u64 0, .int .u64 0] 33, .blk p7 [.int .u64 0, .int .u64 0, .int .u64 0, .int .u64 0] 33] w8 := H10
  refine GL.sem (j := 2) (r9) [1, 2] [(1, pt p3 0), (2, pt p7 0)] (by kernel_rfl) (by kernel_rfl) rfl ?_
  refine GL.k rfl hK2 (fun _ _ h => h) ?_
  refine G.seqK fun K11 hK12 => ?_
  refine G.seqK fun K13 hK14 => ?_
  refine G.region ?_
  refine GL.run (j := 1) 1 [1, 2, 4] [(1, pt p3 0), (2, pt p7 0), (4, .int .i64 0)] (by kernel_rfl) rfl ?_
  refine GL.k rfl hK14 (fun _ _ h => h) ?_
  refine G.block ?_
  refine G.unroll 70 ?_
  refine G.seqK fun K15 hK16 => ?_
  refine G.region ?_
  refine GL.run (j := 1) 1 [1, 2, 4, 5] [(1, pt p3 0), (2, pt p7 0), (4, .int .i64 0), (5, .bool true)] (by kernel_rfl) rfl ?_
  refine GL.k rfl hK16 (fun _ _ h => h) ?_
  refine G.seqK fun K17 hK18 => ?_
  refine G.yes rfl ?_
  refine G.skipK hK18 (fun _ _ h => h) ?_
  refine G.seqK fun K19 hK20 => ?_
  refine G.block ?_
  refine G.seqK fun K21 hK22 => ?_
  refine G.region ?_
  refine GL.run (j := 2) 2 [1, 2, 3, 4] [(1, pt p3 0), (2, pt p7 0), (3, .int .i64 0), (4, .int .i64 0)] (by kernel_rfl) rfl ?_
  refine GL.k rfl hK22 (fun _ _ h => h) ?_
  refine G.region ?_
  refine GL.run (j := 3) 3 [1, 2, 4, 7, 9] [(1, pt p3 0), (2, pt p7 0), (4, .int .i64 0), (7, .int .i64 0), (9, pt p3 0)] (by kernel_rfl) rfl ?_
  refine GL.sem (j := 4) (H10.ld (o := 0) (ty := 31) (v := .int .u64 0) 0 rfl (by kernel_rfl) rfl) [1, 2, 4, 7, 10] [(1, pt p3 0), (2, pt p7 0), (4, .int .i64 0), (7, .int .i64 0), (10, .int .u64 0)] (by kernel_rfl) (by kernel_rfl) rfl ?_
  refine GL.run (j := 6) 2 [1, 2, 4, 11, 12] [(1, pt p3 0), (2, pt p7 0), (4, .int .i64 0), (11, .int .u64 18446744073709551615), (12, pt p3 0)] (by kernel_rfl) rfl ?_
  obtain ⟨w23, r24, H25⟩ := H10.st (P := Try.prog) (o := 0) (ty := 31) (v := .int .u64 18446744073709551615) 0 rfl (by kernel_rfl) (by simp) rfl
  have H25 : Hp w [] [.blk p3 [.int .u64 18446744073709551615, .int .u64 0, .int .u64 0, .int .u64 0] 33, .blk p7 [.int .u64 0, .int .u64 0, .int .u64 0, .int .u64 0] 33] w23 := H25
  refine GL.semU (j := 7) r24 [1, 2, 4] [(1, pt p3 0), (2, pt p7 0), (4, .int .i64 0)] (by kernel_rfl) rfl rfl rfl ?_
  refine GL.k rfl hK20 (fun _ _ h => h) ?_
  refine G.region ?_
  refine GL.run (j := 2) 2 [1, 2, 4] [(1, pt p3 0), (2, pt p7 0), (4, .int .i64 1)] (by kernel_rfl) rfl ?_
  refine GL.round rfl ?_
  refine G.seqK fun K26 hK27 => ?_
  refine G.region ?_
  refine GL.run (j := 1) 1 [1, 2, 4, 5] [(1, pt p3 0), (2, pt p7 0), (4, .int .i64 1), (5, .bool true)] (by kernel_rfl) rfl ?_
  refine GL.k rfl hK27 (fun _ _ h => h) ?_
  refine G.seqK fun K28 hK29 => ?_
  refine G.yes rfl ?_
  refine G.skipK hK29 (fun _ _ h => h) ?_
  refine G.seqK fun K30 hK31 => ?_
  refine G.block ?_
  refine G.seqK fun K32 hK33 => ?_
  refine G.region ?_
  refine GL.run (j := 2) 2 [1, 2, 3, 4] [(1, pt p3 0), (2, pt p7 0), (3, .int .i64 1), (4, .int .i64 1)] (by kernel_rfl) rfl ?_
  refine GL.k rfl hK33 (fun _ _ h => h) ?_
  refine G.region ?_
  refine GL.run (j := 3) 3 [1, 2, 4, 7, 9] [(1, pt p3 0), (2, pt p7 0), (4, .int .i64 1), (7, .int .i64 1), (9, pt p3 1)] (by kernel_rfl) rfl ?_
  refine GL.sem (j := 4) (H25.ld (o := 1) (ty := 31) (v := .int .u64 0) 0 rfl (by kernel_rfl) rfl) [1, 2, 4, 7, 10] [(1, pt p3 0), (2, pt p7 0), (4, .int .i64 1), (7, .int .i64 1), (10, .int .u64 0)] (by kernel_rfl) (by kernel_rfl) rfl ?_
  refine GL.run (j := 6) 2 [1, 2, 4, 11, 12] [(1, pt p3 0), (2, pt p7 0), (4, .int .i64 1), (11, .int .u64 18446744073709551615), (12, pt p3 1)] (by kernel_rfl) rfl ?_
  obtain ⟨w34, r35, H36⟩ := H25.st (P := Try.prog) (o := 1) (ty := 31) (v := .int .u64 18446744073709551615) 0 rfl (by kernel_rfl) (by simp) rfl
  have H36 : Hp w [] [.blk p3 [.int .u64 18446744073709551615, .int .u64 18446744073709551615, .int .u64 0, .int .u64 0] 33, .blk p7 [.int .u64 0, .int .u64 0, .int .u64 0, .int .u64 0] 33] w34 := H36
  refine GL.semU (j := 7) r35 [1, 2, 4] [(1, pt p3 0), (2, pt p7 0), (4, .int .i64 1)] (by kernel_rfl) rfl rfl rfl ?_
  refine GL.k rfl hK31 (fun _ _ h => h) ?_
  refine G.region ?_
  refine GL.run (j := 2) 2 [1, 2, 4] [(1, pt p3 0), (2, pt p7 0), (4, .int .i64 2)] (by kernel_rfl) rfl ?_
  refine GL.round rfl ?_
  refine G.seqK fun K37 hK38 => ?_
  refine G.region ?_
  refine GL.run (j := 1) 1 [1, 2, 4, 5] [(1, pt p3 0), (2, pt p7 0), (4, .int .i64 2), (5, .bool true)] (by kernel_rfl) rfl ?_
  refine GL.k rfl hK38 (fun _ _ h => h) ?_
  refine G.seqK fun K39 hK40 => ?_
  refine G.yes rfl ?_
  refine G.skipK hK40 (fun _ _ h => h) ?_
  refine G.seqK fun K41 hK42 => ?_
  refine G.block ?_
  refine G.seqK fun K43 hK44 => ?_
  refine G.region ?_
  refine GL.run (j := 2) 2 [1, 2, 3, 4] [(1, pt p3 0), (2, pt p7 0), (3, .int .i64 2), (4, .int .i64 2)] (by kernel_rfl) rfl ?_
  refine GL.k rfl hK44 (fun _ _ h => h) ?_
  refine G.region ?_
  refine GL.run (j := 3) 3 [1, 2, 4, 7, 9] [(1, pt p3 0), (2, pt p7 0), (4, .int .i64 2), (7, .int .i64 2), (9, pt p3 2)] (by kernel_rfl) rfl ?_
  refine GL.sem (j := 4) (H36.ld (o := 2) (ty := 31) (v := .int .u64 0) 0 rfl (by kernel_rfl) rfl) [1, 2, 4, 7, 10] [(1, pt p3 0), (2, pt p7 0), (4, .int .i64 2), (7, .int .i64 2), (10, .int .u64 0)] (by kernel_rfl) (by kernel_rfl) rfl ?_
  refine GL.run (j := 6) 2 [1, 2, 4, 11, 12] [(1, pt p3 0), (2, pt p7 0), (4, .int .i64 2), (11, .int .u64 18446744073709551615), (12, pt p3 2)] (by kernel_rfl) rfl ?_
  obtain ⟨w45, r46, H47⟩ := H36.st (P := Try.prog) (o := 2) (ty := 31) (v := .int .u64 18446744073709551615) 0 rfl (by kernel_rfl) (by simp) rfl
  have H47 : Hp w [] [.blk p3 [.int .u64 18446744073709551615, .int .u64 18446744073709551615, .int .u64 18446744073709551615, .int .u64 0] 33, .blk p7 [.int .u64 0, .int .u64 0, .int .u64 0, .int .u64 0] 33] w45 := H47
  refine GL.semU (j := 7) r46 [1, 2, 4] [(1, pt p3 0), (2, pt p7 0), (4, .int .i64 2)] (by kernel_rfl) rfl rfl rfl ?_
  refine GL.k rfl hK42 (fun _ _ h => h) ?_
  refine G.region ?_
  refine GL.run (j := 2) 2 [1, 2, 4] [(1, pt p3 0), (2, pt p7 0), (4, .int .i64 3)] (by kernel_rfl) rfl ?_
  refine GL.round rfl ?_
  refine G.seqK fun K48 hK49 => ?_
  refine G.region ?_
  refine GL.run (j := 1) 1 [1, 2, 4, 5] [(1, pt p3 0), (2, pt p7 0), (4, .int .i64 3), (5, .bool true)] (by kernel_rfl) rfl ?_
  refine GL.k rfl hK49 (fun _ _ h => h) ?_
  refine G.seqK fun K50 hK51 => ?_
  refine G.yes rfl ?_
  refine G.skipK hK51 (fun _ _ h => h) ?_
  refine G.seqK fun K52 hK53 => ?_
  refine G.block ?_
  refine G.seqK fun K54 hK55 => ?_
  refine G.region ?_
  refine GL.run (j := 2) 2 [1, 2, 3, 4] [(1, pt p3 0), (2, pt p7 0), (3, .int .i64 3), (4, .int .i64 3)] (by kernel_rfl) rfl ?_
  refine GL.k rfl hK55 (fun _ _ h => h) ?_
  refine G.region ?_
  refine GL.run (j := 3) 3 [1, 2, 4, 7, 9] [(1, pt p3 0), (2, pt p7 0), (4, .int .i64 3), (7, .int .i64 3), (9, pt p3 3)] (by kernel_rfl) rfl ?_
  refine GL.sem (j := 4) (H47.ld (o := 3) (ty := 31) (v := .int .u64 0) 0 rfl (by kernel_rfl) rfl) [1, 2, 4, 7, 10] [(1, pt p3 0), (2, pt p7 0), (4, .int .i64 3), (7, .int .i64 3), (10, .int .u64 0)] (by kernel_rfl) (by kernel_rfl) rfl ?_
  refine GL.run (j := 6) 2 [1, 2, 4, 11, 12] [(1, pt p3 0), (2, pt p7 0), (4, .int .i64 3), (11, .int .u64 18446744073709551615), (12, pt p3 3)] (by kernel_rfl) rfl ?_
  obtain ⟨w56, r57, H58⟩ := H47.st (P := Try.prog) (o := 3) (ty := 31) (v := .int .u64 18446744073709551615) 0 rfl (by kernel_rfl) (by simp) rfl
  have H58 : Hp w [] [.blk p3 [.int .u64 18446744073709551615, .int .u64 18446744073709551615, .int .u64 18446744073709551615, .int .u64 18446744073709551615] 33, .blk p7 [.int .u64 0, .int .u64 0, .int .u64 0, .int .u64 0] 33] w56 := H58
  refine GL.semU (j := 7) r57 [1, 2, 4] [(1, pt p3 0), (2, pt p7 0), (4, .int .i64 3)] (by kernel_rfl) rfl rfl rfl ?_
  refine GL.k rfl hK53 (fun _ _ h => h) ?_
  refine G.region ?_
  refine GL.run (j := 2) 2 [1, 2, 4] [(1, pt p3 0), (2, pt p7 0), (4, .int .i64 4)] (by kernel_rfl) rfl ?_
  refine GL.round rfl ?_
  refine G.seqK fun K59 hK60 => ?_
  refine G.region ?_
  refine GL.run (j := 1) 1 [1, 2, 4, 5] [(1, pt p3 0), (2, pt p7 0), (4, .int .i64 4), (5, .bool false)] (by kernel_rfl) rfl ?_
  refine GL.k rfl hK60 (fun _ _ h => h) ?_
  refine G.seqK fun K61 hK62 => ?_
  refine G.no rfl ?_
  refine G.exitK hK12 (fun _ _ h => h) ?_
  refine G.seqK fun K63 hK64 => ?_
  refine G.region ?_
  refine GL.sem (j := 1) (H58.ldA (o := 0) (ty := 33) (m := 4) (sub := [.int .u64 18446744073709551615, .int .u64 18446744073709551615, .int .u64 18446744073709551615, .int .u64 18446744073709551615]) 0 rfl (by kernel_rfl) rfl rfl) [2, 14] [(2, pt p7 0), (14, .agg #[.int .u64 18446744073709551615, .int .u64 18446744073709551615, .int .u64 18446744073709551615, .int .u64 18446744073709551615])] (by kernel_rfl) (by kernel_rfl) rfl ?_
  obtain ⟨w65, r66, H67⟩ := H58.stA (P := Try.prog) (o := 0) (vs := [.int .u64 18446744073709551615, .int .u64 18446744073709551615, .int .u64 18446744073709551615, .int .u64 18446744073709551615]) (ty := 33) (m := 4) 1 rfl (by kernel_rfl) rfl (by simp) (by simp [Value.oneCell'])
  have H67 : Hp w [] [.blk p3 [.int .u64 18446744073709551615, .int .u64 18446744073709551615, .int .u64 18446744073709551615, .int .u64 18446744073709551615] 33, .blk p7 [.int .u64 18446744073709551615, .int .u64 18446744073709551615, .int .u64 18446744073709551615, .int .u64 18446744073709551615] 33] w65 := H67
  refine GL.semU (j := 2) r66 [2] [(2, pt p7 0)] (by kernel_rfl) rfl rfl rfl ?_
  refine GL.k rfl hK64 (fun _ _ h => h) ?_
  refine G.ret ?_
  intro F_ hF_ hM_
  refine hRet _ _ (bodyPost_1 rfl (RV.cell rfl (H67.ldA (o := 0) (ty := 33) (m := 4) (sub := [.int .u64 18446744073709551615, .int .u64 18446744073709551615, .int .u64 18446744073709551615, .int .u64 18446744073709551615]) 1 rfl (by kernel_rfl) rfl rfl)) ?_ F_ hF_ hM_)
  exact ⟨rfl, H67.sub (List.nil_sublist _)⟩
theorem Check0_calls (w : World) : Calls Try.prog 14 #[.agg (hdC 1 ([0, 0, 0, 0, 0, 0, 0, 0, 0, 0, 0, 0, 0, 0, 0, 0, 0, 0, 0, 0, 0, 0, 0, 0, 0, 0, 0, 0, 0, 0, 0, 0] : List UInt8) ([59, 163, 237, 253, 122, 123, 18, 178, 122, 199, 44, 62, 103, 118, 143, 97, 127, 200, 27, 195, 136, 138, 81, 50, 58, 159, 184, 170, 75, 30, 94, 74] : List UInt8) 1231006505 486604799 2083236893).toArray, .agg #[.int .u64 18446744073709551615, .int .u64 18446744073709551615, .int .u64 18446744073709551615, .int .u64 18446744073709551615]] w fun e w' => e = .returned (.int .i64 0) ∧ Hp w [] [] w' := by
  refine calls_G (args := [.agg (hdC 1 ([0, 0, 0, 0, 0, 0, 0, 0, 0, 0, 0, 0, 0, 0, 0, 0, 0, 0, 0, 0, 0, 0, 0, 0, 0, 0, 0, 0, 0, 0, 0, 0] : List UInt8) ([59, 163, 237, 253, 122, 123, 18, 178, 122, 199, 44, 62, 103, 118, 143, 97, 127, 200, 27, 195, 136, 138, 81, 50, 58, 159, 184, 170, 75, 30, 94, 74] : List UInt8) 1231006505 486604799 2083236893).toArray, .agg #[.int .u64 18446744073709551615, .int .u64 18446744073709551615, .int .u64 18446744073709551615, .int .u64 18446744073709551615]]) Try.func14 rfl Try.ntmps14 rfl ?_
  intro Q0 hRet hNor hPan
  have H := Hp.start w
  have H : Hp w [] [] w := H
  refine G.seqK fun K1 hK2 => ?_
  refine G.region ?_
  obtain ⟨p3, w4, r5, H6⟩ := H.box (P := Try.prog) 26 (hdC 1 ([0, 0, 0, 0, 0, 0, 0, 0, 0, 0, 0, 0, 0, 0, 0, 0, 0, 0, 0, 0, 0, 0, 0, 0, 0, 0, 0, 0, 0, 0, 0, 0] : List UInt8) ([59, 163, 237, 253, 122, 123, 18, 178, 122, 199, 44, 62, 103, 118, 143, 97, 127, 200, 27, 195, 136, 138, 81, 50, 58, 159, 184, 170, 75, 30, 94, 74] : List UInt8) 1231006505 486604799 2083236893) (.agg (hdC 1 ([0, 0, 0, 0, 0, 0, 0, 0, 0, 0, 0, 0, 0, 0, 0, 0, 0, 0, 0, 0, 0, 0, 0, 0, 0, 0, 0, 0, 0, 0, 0, 0] : List UInt8) ([59, 163, 237, 253, 122, 123, 18, 178, 122, 199, 44, 62, 103, 118, 143, 97, 127, 200, 27, 195, 136, 138, 81, 50, 58, 159, 184, 170, 75, 30, 94, 74] : List UInt8) 1231006505 486604799 2083236893).toArray) rfl
  have H6 : Hp w [] [.blk p3 (hdC 1 ([0, 0, 0, 0, 0, 0, 0, 0, 0, 0, 0, 0, 0, 0, 0, 0, 0, 0, 0, 0, 0, 0, 0, 0, 0, 0, 0, 0, 0, 0, 0, 0] : List UInt8) ([59, 163, 237, 253, 122, 123, 18, 178, 122, 199, 44, 62, 103, 118, 143, 97, 127, 200, 27, 195, 136, 138, 81, 50, 58, 159, 184, 170, 75, 30, 94, 74] : List UInt8) 1231006505 486604799 2083236893) 26] w4 := H6
  refine GL.sem (j := 1) (r5) [1, 2] [(1, .agg #[.int .u64 18446744073709551615, .int .u64 18446744073709551615, .int .u64 18446744073709551615, .int .u64 18446744073709551615]), (2, pt p3 0)] (by kernel_rfl) (by kernel_rfl) rfl ?_
  obtain ⟨p7, w8, r9, H10⟩ := H6.box (P := Try.prog) 33 [.int .u64 18446744073709551615, .int .u64 18446744073709551615, .int .u64 18446744073709551615, .int .u64 18446744073709551615] (.agg #[.int .u64 18446744073709551615, .int .u64 18446744073709551615, .int .u64 18446744073709551615, .int .u64 18446744073709551615]) rfl
  have H10 : Hp w [] [.blk p3 (hdC 1 ([0, 0, 0, 0, 0, 0, 0, 0, 0, 0, 0, 0, 0, 0, 0, 0, 0, 0, 0, 0, 0, 0, 0, 0, 0, 0, 0, 0, 0, 0, 0, 0] : List UInt8) ([59, 163, 237, 253, 122, 123, 18, 178, 122, 199, 44, 62, 103, 118, 143, 97, 127, 200, 27, 195, 136, 138, 81, 50, 58, 159, 184, 170, 75, 30, 94, 74] : List UInt8) 1231006505 486604799 2083236893) 26, .blk p7 [.int .u64 18446744073709551615, .int .u64 18446744073709551615, .int .u64 18446744073709551615, .int .u64 18446744073709551615] 33] w8 := H10
  refine GL.sem (j := 2) (r9) [2, 3] [(2, pt p3 0), (3, pt p7 0)] (by kernel_rfl) (by kernel_rfl) rfl ?_
  refine GL.run (j := 3) 1 [2, 3] [(2, pt p3 0), (3, pt p7 0)] (by kernel_rfl) rfl ?_
  refine GL.k rfl hK2 (fun _ _ h => h) ?_
  refine G.seqK fun K11 hK12 => ?_
  refine G.region ?_
  refine GL.run (j := 1) 1 [2, 3, 8] [(2, pt p3 0), (3, pt p7 0), (8, pt p3 66)] (by kernel_rfl) rfl ?_
  refine GL.sem (j := 2) (H10.ld (o := 66) (ty := 22) (v := .int .u32 486604799) 0 rfl (by kernel_rfl) (hdC_b rfl rfl)) [2, 3, 9] [(2, pt p3 0), (3, pt p7 0), (9, .int .u32 486604799)] (by kernel_rfl) (by kernel_rfl) rfl ?_
  refine GL.call (j := 3) (Lit4_calls w8) (by kernel_rfl) rfl (fun e_ w13 hR => ?_)
  obtain ⟨rfl, H15⟩ := hR
  have H14 : Hp w [] [.blk p3 (hdC 1 ([0, 0, 0, 0, 0, 0, 0, 0, 0, 0, 0, 0, 0, 0, 0, 0, 0, 0, 0, 0, 0, 0, 0, 0, 0, 0, 0, 0, 0, 0, 0, 0] : List UInt8) ([59, 163, 237, 253, 122, 123, 18, 178, 122, 199, 44, 62, 103, 118, 143, 97, 127, 200, 27, 195, 136, 138, 81, 50, 58, 159, 184, 170, 75, 30, 94, 74] : List UInt8) 1231006505 486604799 2083236893) 26, .blk p7 [.int .u64 18446744073709551615, .int .u64 18446744073709551615, .int .u64 18446744073709551615, .int .u64 18446744073709551615] 33] w13 := H10.callNil H15
  refine ⟨_, rfl, [2, 3, 10], [(2, pt p3 0), (3, pt p7 0), (10, .tuple #[.agg #[.int .u64 0, .int .u64 0, .int .u64 0, .int .u64 4294901760], .int .i64 0])], by kernel_rfl, ?_⟩
  refine GL.run (j := 6) 3 [2, 3, 11, 12] [(2, pt p3 0), (3, pt p7 0), (11, .agg #[.int .u64 0, .int .u64 0, .int .u64 0, .int .u64 4294901760]), (12, .int .i64 0)] (by kernel_rfl) rfl ?_
  obtain ⟨p16, w17, r18, H19⟩ := H14.alloc (P := Try.prog) 33 [.int .u64 0, .int .u64 0, .int .u64 0, .int .u64 0] (by kernel_rfl)
  have H19 : Hp w [] [.blk p3 (hdC 1 ([0, 0, 0, 0, 0, 0, 0, 0, 0, 0, 0, 0, 0, 0, 0, 0, 0, 0, 0, 0, 0, 0, 0, 0, 0, 0, 0, 0, 0, 0, 0, 0] : List UInt8) ([59, 163, 237, 253, 122, 123, 18, 178, 122, 199, 44, 62, 103, 118, 143, 97, 127, 200, 27, 195, 136, 138, 81, 50, 58, 159, 184, 170, 75, 30, 94, 74] : List UInt8) 1231006505 486604799 2083236893) 26, .blk p7 [.int .u64 18446744073709551615, .int .u64 18446744073709551615, .int .u64 18446744073709551615, .int .u64 18446744073709551615] 33, .blk p16 [.int .u64 0, .int .u64 0, .int .u64 0, .int .u64 0] 33] w17 := H19
  refine GL.sem (j := 7) (r18) [2, 3, 5, 11, 12] [(2, pt p3 0), (3, pt p7 0), (5, pt p16 0), (11, .agg #[.int .u64 0, .int .u64 0, .int .u64 0, .int .u64 4294901760]), (12, .int .i64 0)] (by kernel_rfl) (by kernel_rfl) rfl ?_
  obtain ⟨w20, r21, H22⟩ := H19.stA (P := Try.prog) (o := 0) (vs := [.int .u64 0, .int .u64 0, .int .u64 0, .int .u64 4294901760]) (ty := 33) (m := 4) 2 rfl (by kernel_rfl) rfl (by simp) (by simp [Value.oneCell'])
  have H22 : Hp w [] [.blk p3 (hdC 1 ([0, 0, 0, 0, 0, 0, 0, 0, 0, 0, 0, 0, 0, 0, 0, 0, 0, 0, 0, 0, 0, 0, 0, 0, 0, 0, 0, 0, 0, 0, 0, 0] : List UInt8) ([59, 163, 237, 253, 122, 123, 18, 178, 122, 199, 44, 62, 103, 118, 143, 97, 127, 200, 27, 195, 136, 138, 81, 50, 58, 159, 184, 170, 75, 30, 94, 74] : List UInt8) 1231006505 486604799 2083236893) 26, .blk p7 [.int .u64 18446744073709551615, .int .u64 18446744073709551615, .int .u64 18446744073709551615, .int .u64 18446744073709551615] 33, .blk p16 [.int .u64 0, .int .u64 0, .int .u64 0, .int .u64 4294901760] 33] w20 := H22
  refine GL.semU (j := 8) r21 [2, 3, 5, 12] [(2, pt p3 0), (3, pt p7 0), (5, pt p16 0), (12, .int .i64 0)] (by kernel_rfl) rfl rfl rfl ?_
  refine GL.run (j := 9) 1 [2, 3, 5, 6] [(2, pt p3 0), (3, pt p7 0), (5, pt p16 0), (6, .int .i64 0)] (by kernel_rfl) rfl ?_
  refine GL.k rfl hK12 (fun _ _ h => h) ?_
  refine G.seqK fun K23 hK24 => ?_
  refine G.block ?_
  refine G.seqK fun K25 hK26 => ?_
  refine G.region ?_
  refine GL.run (j := 3) 3 [2, 3, 5, 16] [(2, pt p3 0), (3, pt p7 0), (5, pt p16 0), (16, .bool false)] (by kernel_rfl) rfl ?_
  refine GL.sem (j := 4) (H22.ldA (o := 0) (ty := 33) (m := 4) (sub := [.int .u64 0, .int .u64 0, .int .u64 0, .int .u64 4294901760]) 2 rfl (by kernel_rfl) rfl rfl) [2, 3, 5, 16, 17] [(2, pt p3 0), (3, pt p7 0), (5, pt p16 0), (16, .bool false), (17, .agg #[.int .u64 0, .int .u64 0, .int .u64 0, .int .u64 4294901760])] (by kernel_rfl) (by kernel_rfl) rfl ?_
  refine GL.sem (j := 5) (H22.ldA (o := 0) (ty := 33) (m := 4) (sub := [.int .u64 18446744073709551615, .int .u64 18446744073709551615, .int .u64 18446744073709551615, .int .u64 18446744073709551615]) 1 rfl (by kernel_rfl) rfl rfl) [2, 5, 16, 17, 18] [(2, pt p3 0), (5, pt p16 0), (16, .bool false), (17, .agg #[.int .u64 0, .int .u64 0, .int .u64 0, .int .u64 4294901760]), (18, .agg #[.int .u64 18446744073709551615, .int .u64 18446744073709551615, .int .u64 18446744073709551615, .int .u64 18446744073709551615])] (by kernel_rfl) (by kernel_rfl) rfl ?_
  refine GL.call (j := 6) (Lit5_calls w20) (by kernel_rfl) rfl (fun e_ w27 hR => ?_)
  obtain ⟨rfl, H29⟩ := hR
  have H28 : Hp w [] [.blk p3 (hdC 1 ([0, 0, 0, 0, 0, 0, 0, 0, 0, 0, 0, 0, 0, 0, 0, 0, 0, 0, 0, 0, 0, 0, 0, 0, 0, 0, 0, 0, 0, 0, 0, 0] : List UInt8) ([59, 163, 237, 253, 122, 123, 18, 178, 122, 199, 44, 62, 103, 118, 143, 97, 127, 200, 27, 195, 136, 138, 81, 50, 58, 159, 184, 170, 75, 30, 94, 74] : List UInt8) 1231006505 486604799 2083236893) 26, .blk p7 [.int .u64 18446744073709551615, .int .u64 18446744073709551615, .int .u64 18446744073709551615, .int .u64 18446744073709551615] 33, .blk p16 [.int .u64 0, .int .u64 0, .int .u64 0, .int .u64 4294901760] 33] w27 := H22.callNil H29
  refine ⟨_, rfl, [2, 5, 16, 19], [(2, pt p3 0), (5, pt p16 0), (16, .bool false), (19, .int .i64 (-1))], by kernel_rfl, ?_⟩
  refine GL.run (j := 9) 3 [2, 5, 13] [(2, pt p3 0), (5, pt p16 0), (13, .bool false)] (by kernel_rfl) rfl ?_
  refine GL.k rfl hK26 (fun _ _ h => h) ?_
  refine G.no rfl ?_
  refine G.seqK fun K30 hK31 => ?_
  refine G.heldP (Hp w [] [.blk p3 (hdC 1 ([0, 0, 0, 0, 0, 0, 0, 0, 0, 0, 0, 0, 0, 0, 0, 0, 0, 0, 0, 0, 0, 0, 0, 0, 0, 0, 0, 0, 0, 0, 0, 0] : List UInt8) ([59, 163, 237, 253, 122, 123, 18, 178, 122, 199, 44, 62, 103, 118, 143, 97, 127, 200, 27, 195, 136, 138, 81, 50, 58, 159, 184, 170, 75, 30, 94, 74] : List UInt8) 1231006505 486604799 2083236893) 26, .blk p7 [.int .u64 18446744073709551615, .int .u64 18446744073709551615, .int .u64 18446744073709551615, .int .u64 18446744073709551615] 33, .blk p16 [.int .u64 0, .int .u64 0, .int .u64 0, .int .u64 4294901760] 33]) (by kernel_rfl) (by kernel_rfl) (fun c_ a_ d_ v_ w_ h_ => hPan c_ a_ d_ v_ w_ h_) ?_
  have H32 := H28.drew
  generalize ({ w27 with drawn := w27.drawn + 1 } : World) = w33 at H32 ⊢
  have hS34 : Hp w [] [.blk p3 (hdC 1 ([0, 0, 0, 0, 0, 0, 0, 0, 0, 0, 0, 0, 0, 0, 0, 0, 0, 0, 0, 0, 0, 0, 0, 0, 0, 0, 0, 0, 0, 0, 0, 0] : List UInt8) ([59, 163, 237, 253, 122, 123, 18, 178, 122, 199, 44, 62, 103, 118, 143, 97, 127, 200, 27, 195, 136, 138, 81, 50, 58, 159, 184, 170, 75, 30, 94, 74] : List UInt8) 1231006505 486604799 2083236893) 26, .blk p7 [.int .u64 18446744073709551615, .int .u64 18446744073709551615, .int .u64 18446744073709551615, .int .u64 18446744073709551615] 33, .blk p16 [.int .u64 0, .int .u64 0, .int .u64 0, .int .u64 4294901760] 33] w33 := H32.sub (List.Sublist.cons_cons _ (List.Sublist.cons_cons _ (List.Sublist.cons_cons _ (List.Sublist.slnil))))
  refine GP.sem 0 (fun w_ H_ => H_.ldA (o := 0) (ty := 26) (m := 68) (sub := hdC 1 ([0, 0, 0, 0, 0, 0, 0, 0, 0, 0, 0, 0, 0, 0, 0, 0, 0, 0, 0, 0, 0, 0, 0, 0, 0, 0, 0, 0, 0, 0, 0, 0] : List UInt8) ([59, 163, 237, 253, 122, 123, 18, 178, 122, 199, 44, 62, 103, 118, 143, 97, 127, 200, 27, 195, 136, 138, 81, 50, 58, 159, 184, 170, 75, 30, 94, 74] : List UInt8) 1231006505 486604799 2083236893) 0 rfl (by kernel_rfl) (sub_whole (hdC_length rfl rfl)) (hdC_length rfl rfl)) [5, 23] [(5, pt p16 0), (23, .agg (hdC 1 ([0, 0, 0, 0, 0, 0, 0, 0, 0, 0, 0, 0, 0, 0, 0, 0, 0, 0, 0, 0, 0, 0, 0, 0, 0, 0, 0, 0, 0, 0, 0, 0] : List UInt8) ([59, 163, 237, 253, 122, 123, 18, 178, 122, 199, 44, 62, 103, 118, 143, 97, 127, 200, 27, 195, 136, 138, 81, 50, 58, 159, 184, 170, 75, 30, 94, 74] : List UInt8) 1231006505 486604799 2083236893).toArray)] (by kernel_rfl) (by kernel_rfl) (by kernel_rfl) hS34 ?_
  refine GP.sem 2 (fun w_ H_ => H_.ldA (o := 0) (ty := 33) (m := 4) (sub := [.int .u64 0, .int .u64 0, .int .u64 0, .int .u64 4294901760]) 2 rfl (by kernel_rfl) rfl rfl) [23, 25] [(23, .agg (hdC 1 ([0, 0, 0, 0, 0, 0, 0, 0, 0, 0, 0, 0, 0, 0, 0, 0, 0, 0, 0, 0, 0, 0, 0, 0, 0, 0, 0, 0, 0, 0, 0, 0] : List UInt8) ([59, 163, 237, 253, 122, 123, 18, 178, 122, 199, 44, 62, 103, 118, 143, 97, 127, 200, 27, 195, 136, 138, 81, 50, 58, 159, 184, 170, 75, 30, 94, 74] : List UInt8) 1231006505 486604799 2083236893).toArray), (25, .agg #[.int .u64 0, .int .u64 0, .int .u64 0, .int .u64 4294901760])] (by kernel_rfl) (by kernel_rfl) (by kernel_rfl) hS34 ?_
  refine GP.call 1 ((by have h_ := HHash_calls 1 ([0, 0, 0, 0, 0, 0, 0, 0, 0, 0, 0, 0, 0, 0, 0, 0, 0, 0, 0, 0, 0, 0, 0, 0, 0, 0, 0, 0, 0, 0, 0, 0] : List UInt8) ([59, 163, 237, 253, 122, 123, 18, 178, 122, 199, 44, 62, 103, 118, 143, 97, 127, 200, 27, 195, 136, 138, 81, 50, 58, 159, 184, 170, 75, 30, 94, 74] : List UInt8) 1231006505 486604799 2083236893 w33 rfl rfl (by decide) (by decide) (by decide) (by decide); rw [first_hash] at h_; exact h_)) (by kernel_rfl) (by kernel_rfl) (fun e_ w35 hR => ?_)
  obtain ⟨rfl, H37⟩ := hR
  have H36 : Hp w [] [.blk p3 (hdC 1 ([0, 0, 0, 0, 0, 0, 0, 0, 0, 0, 0, 0, 0, 0, 0, 0, 0, 0, 0, 0, 0, 0, 0, 0, 0, 0, 0, 0, 0, 0, 0, 0] : List UInt8) ([59, 163, 237, 253, 122, 123, 18, 178, 122, 199, 44, 62, 103, 118, 143, 97, 127, 200, 27, 195, 136, 138, 81, 50, 58, 159, 184, 170, 75, 30, 94, 74] : List UInt8) 1231006505 486604799 2083236893) 26, .blk p7 [.int .u64 18446744073709551615, .int .u64 18446744073709551615, .int .u64 18446744073709551615, .int .u64 18446744073709551615] 33, .blk p16 [.int .u64 0, .int .u64 0, .int .u64 0, .int .u64 4294901760] 33] w35 := H32.callNil H37
  have hS38 : Hp w [] [.blk p3 (hdC 1 ([0, 0, 0, 0, 0, 0, 0, 0, 0, 0, 0, 0, 0, 0, 0, 0, 0, 0, 0, 0, 0, 0, 0, 0, 0, 0, 0, 0, 0, 0, 0, 0] : List UInt8) ([59, 163, 237, 253, 122, 123, 18, 178, 122, 199, 44, 62, 103, 118, 143, 97, 127, 200, 27, 195, 136, 138, 81, 50, 58, 159, 184, 170, 75, 30, 94, 74] : List UInt8) 1231006505 486604799 2083236893) 26, .blk p7 [.int .u64 18446744073709551615, .int .u64 18446744073709551615, .int .u64 18446744073709551615, .int .u64 18446744073709551615] 33, .blk p16 [.int .u64 0, .int .u64 0, .int .u64 0, .int .u64 4294901760] 33] w35 := H36.sub (List.Sublist.cons_cons _ (List.Sublist.cons_cons _ (List.Sublist.cons_cons _ (List.Sublist.slnil))))
  refine ⟨_, rfl, hS38, [24, 25], [(24, .agg #[.int .u8 111, .int .u8 226, .int .u8 140, .int .u8 10, .int .u8 182, .int .u8 241, .int .u8 179, .int .u8 114, .int .u8 193, .int .u8 166, .int .u8 162, .int .u8 70, .int .u8 174, .int .u8 99, .int .u8 247, .int .u8 79, .int .u8 147, .int .u8 30, .int .u8 131, .int .u8 101, .int .u8 225, .int .u8 90, .int .u8 8, .int .u8 156, .int .u8 104, .int .u8 214, .int .u8 25, .int .u8 0, .int .u8 0, .int .u8 0, .int .u8 0, .int .u8 0]), (25, .agg #[.int .u64 0, .int .u64 0, .int .u64 0, .int .u64 4294901760])], by kernel_rfl, ?_⟩
  refine GP.call 3 (Lit7_calls w35) (by kernel_rfl) (by kernel_rfl) (fun e_ w39 hR => ?_)
  obtain ⟨rfl, H41⟩ := hR
  have H40 : Hp w [] [.blk p3 (hdC 1 ([0, 0, 0, 0, 0, 0, 0, 0, 0, 0, 0, 0, 0, 0, 0, 0, 0, 0, 0, 0, 0, 0, 0, 0, 0, 0, 0, 0, 0, 0, 0, 0] : List UInt8) ([59, 163, 237, 253, 122, 123, 18, 178, 122, 199, 44, 62, 103, 118, 143, 97, 127, 200, 27, 195, 136, 138, 81, 50, 58, 159, 184, 170, 75, 30, 94, 74] : List UInt8) 1231006505 486604799 2083236893) 26, .blk p7 [.int .u64 18446744073709551615, .int .u64 18446744073709551615, .int .u64 18446744073709551615, .int .u64 18446744073709551615] 33, .blk p16 [.int .u64 0, .int .u64 0, .int .u64 0, .int .u64 4294901760] 33] w39 := H36.callNil H41
  have hS42 : Hp w [] [.blk p3 (hdC 1 ([0, 0, 0, 0, 0, 0, 0, 0, 0, 0, 0, 0, 0, 0, 0, 0, 0, 0, 0, 0, 0, 0, 0, 0, 0, 0, 0, 0, 0, 0, 0, 0] : List UInt8) ([59, 163, 237, 253, 122, 123, 18, 178, 122, 199, 44, 62, 103, 118, 143, 97, 127, 200, 27, 195, 136, 138, 81, 50, 58, 159, 184, 170, 75, 30, 94, 74] : List UInt8) 1231006505 486604799 2083236893) 26, .blk p7 [.int .u64 18446744073709551615, .int .u64 18446744073709551615, .int .u64 18446744073709551615, .int .u64 18446744073709551615] 33, .blk p16 [.int .u64 0, .int .u64 0, .int .u64 0, .int .u64 4294901760] 33] w39 := H40.sub (List.Sublist.cons_cons _ (List.Sublist.cons_cons _ (List.Sublist.cons_cons _ (List.Sublist.slnil))))
  refine ⟨_, rfl, hS42, [26], [(26, .bool true)], by kernel_rfl, ?_⟩
  refine GP.run [4, 5] [22] [(22, .bool false)] [0, 2, 1, 3, 4, 5] (by kernel_rfl) rfl hS42 ?_
  refine GP.k (by kernel_rfl) hK31 (fun _ _ h => h) ?_
  refine G.no rfl ?_
  refine G.skipK hK24 (fun _ _ h => h) ?_
  refine G.seqK fun K43 hK44 => ?_
  refine G.region ?_
  refine GL.run (j := 1) 1 [4] [(4, .int .i64 0)] (by kernel_rfl) rfl ?_
  refine GL.k rfl hK44 (fun _ _ h => h) ?_
  refine G.ret ?_
  intro F_ hF_ hM_
  refine hRet _ _ (bodyPost_1 rfl (RV.tmp rfl) ?_ F_ hF_ hM_)
  exact ⟨rfl, H40.sub (List.nil_sublist _)⟩
theorem lives_calls (w : World) : Calls Try.prog 7 #[] w fun e w' => e = .returned (.bool true) ∧ Hp w [] [] w' := by
  refine calls_G (args := []) Try.func7 rfl Try.ntmps7 rfl ?_
  intro Q0 hRet hNor hPan
  have H := Hp.start w
  have H : Hp w [] [] w := H
  refine G.seqK fun K1 hK2 => ?_
  refine G.region ?_
  refine GL.run (j := 1) 1 [] [] (by kernel_rfl) rfl ?_
  refine GL.k rfl hK2 (fun _ _ h => h) ?_
  refine G.seqK fun K3 hK4 => ?_
  refine G.region ?_
  refine GL.call (j := 1) (first_calls w) (by kernel_rfl) rfl (fun e_ w5 hR => ?_)
  obtain ⟨rfl, H7⟩ := hR
  have H6 : Hp w [] [] w5 := H.callNil H7
  refine ⟨_, rfl, [2], [(2, .agg (hdC 1 ([0, 0, 0, 0, 0, 0, 0, 0, 0, 0, 0, 0, 0, 0, 0, 0, 0, 0, 0, 0, 0, 0, 0, 0, 0, 0, 0, 0, 0, 0, 0, 0] : List UInt8) ([59, 163, 237, 253, 122, 123, 18, 178, 122, 199, 44, 62, 103, 118, 143, 97, 127, 200, 27, 195, 136, 138, 81, 50, 58, 159, 184, 170, 75, 30, 94, 74] : List UInt8) 1231006505 486604799 2083236893).toArray)], by kernel_rfl, ?_⟩
  refine GL.call (j := 2) ((by have h_ := HHash_calls 1 ([0, 0, 0, 0, 0, 0, 0, 0, 0, 0, 0, 0, 0, 0, 0, 0, 0, 0, 0, 0, 0, 0, 0, 0, 0, 0, 0, 0, 0, 0, 0, 0] : List UInt8) ([59, 163, 237, 253, 122, 123, 18, 178, 122, 199, 44, 62, 103, 118, 143, 97, 127, 200, 27, 195, 136, 138, 81, 50, 58, 159, 184, 170, 75, 30, 94, 74] : List UInt8) 1231006505 486604799 2083236893 w5 rfl rfl (by decide) (by decide) (by decide) (by decide); rw [first_hash] at h_; exact h_)) (by kernel_rfl) rfl (fun e_ w8 hR => ?_)
  obtain ⟨rfl, H10⟩ := hR
  have H9 : Hp w [] [] w8 := H6.callNil H10
  refine ⟨_, rfl, [3], [(3, .agg #[.int .u8 111, .int .u8 226, .int .u8 140, .int .u8 10, .int .u8 182, .int .u8 241, .int .u8 179, .int .u8 114, .int .u8 193, .int .u8 166, .int .u8 162, .int .u8 70, .int .u8 174, .int .u8 99, .int .u8 247, .int .u8 79, .int .u8 147, .int .u8 30, .int .u8 131, .int .u8 101, .int .u8 225, .int .u8 90, .int .u8 8, .int .u8 156, .int .u8 104, .int .u8 214, .int .u8 25, .int .u8 0, .int .u8 0, .int .u8 0, .int .u8 0, .int .u8 0])], by kernel_rfl, ?_⟩
  refine GL.call (j := 3) ((by have h_ := Text_calls ([111, 226, 140, 10, 182, 241, 179, 114, 193, 166, 162, 70, 174, 99, 247, 79, 147, 30, 131, 101, 225, 90, 8, 156, 104, 214, 25, 0, 0, 0, 0, 0] : List UInt8) rfl w8; rw [first_text] at h_; exact h_)) (by kernel_rfl) rfl (fun e_ w11 hR => ?_)
  obtain ⟨rfl, H13⟩ := hR
  have H12 : Hp w [] [] w11 := H9.callNil H13
  refine ⟨_, rfl, [4], [(4, .string (strOf ([48, 48, 48, 48, 48, 48, 48, 48, 48, 48, 49, 57, 100, 54, 54, 56, 57, 99, 48, 56, 53, 97, 101, 49, 54, 53, 56, 51, 49, 101, 57, 51, 52, 102, 102, 55, 54, 51, 97, 101, 52, 54, 97, 50, 97, 54, 99, 49, 55, 50, 98, 51, 102, 49, 98, 54, 48, 97, 56, 99, 101, 50, 54, 102] : List UInt8)))], by kernel_rfl, ?_⟩
  refine GL.run (j := 4) 1 [1] [(1, .string (strOf ([48, 48, 48, 48, 48, 48, 48, 48, 48, 48, 49, 57, 100, 54, 54, 56, 57, 99, 48, 56, 53, 97, 101, 49, 54, 53, 56, 51, 49, 101, 57, 51, 52, 102, 102, 55, 54, 51, 97, 101, 52, 54, 97, 50, 97, 54, 99, 49, 55, 50, 98, 51, 102, 49, 98, 54, 48, 97, 56, 99, 101, 50, 54, 102] : List UInt8)))] (by kernel_rfl) rfl ?_
  refine GL.k rfl hK4 (fun _ _ h => h) ?_
  refine G.seqK fun K14 hK15 => ?_
  refine G.region ?_
  refine GL.run (j := 5) 5 [8, 9] [(8, .bool true), (9, .string (strOf ([48, 48, 48, 48, 48, 48, 48, 48, 48, 48, 49, 57, 100, 54, 54, 56, 57, 99, 48, 56, 53, 97, 101, 49, 54, 53, 56, 51, 49, 101, 57, 51, 52, 102, 102, 55, 54, 51, 97, 101, 52, 54, 97, 50, 97, 54, 99, 49, 55, 50, 98, 51, 102, 49, 98, 54, 48, 97, 56, 99, 101, 50, 54, 102] : List UInt8)))] (by kernel_rfl) rfl ?_
  refine GL.sem (j := 6) (run_strHead (P := Try.prog) (t := 9) (k := .i64) (s := ([48, 48, 48, 48, 48, 48, 48, 48, 48, 48, 49, 57, 100, 54, 54, 56, 57, 99, 48, 56, 53, 97, 101, 49, 54, 53, 56, 51, 49, 101, 57, 51, 52, 102, 102, 55, 54, 51, 97, 101, 52, 54, 97, 50, 97, 54, 99, 49, 55, 50, 98, 51, 102, 49, 98, 54, 48, 97, 56, 99, 101, 50, 54, 102] : List UInt8)) (h := 16) (r := ([48, 48, 48, 48, 48, 48, 48, 48, 48, 48, 49, 57, 100, 54, 54, 56] : List UInt8)) (by kernel_rfl) (by decide) rfl _) [8, 10] [(8, .bool true), (10, .string (strOf ([48, 48, 48, 48, 48, 48, 48, 48, 48, 48, 49, 57, 100, 54, 54, 56] : List UInt8)))] (by kernel_rfl) (by kernel_rfl) rfl ?_
  refine GL.sem (j := 7) (run_str_eql (P := Try.prog) (t := 9) ([48, 48, 48, 48, 48, 48, 48, 48, 48, 48, 49, 57, 100, 54, 54, 56] : List UInt8) ([48, 48, 48, 48, 48, 48, 48, 48, 48, 48, 49, 57, 100, 54, 54, 56] : List UInt8) _) [8, 11] [(8, .bool true), (11, .bool true)] (by kernel_rfl) (by kernel_rfl) rfl ?_
  refine GL.run (j := 9) 2 [13] [(13, .bool true)] (by kernel_rfl) rfl ?_
  refine GL.call (j := 10) (first_calls w11) (by kernel_rfl) rfl (fun e_ w16 hR => ?_)
  obtain ⟨rfl, H18⟩ := hR
  have H17 : Hp w [] [] w16 := H12.callNil H18
  refine ⟨_, rfl, [13, 14], [(13, .bool true), (14, .agg (hdC 1 ([0, 0, 0, 0, 0, 0, 0, 0, 0, 0, 0, 0, 0, 0, 0, 0, 0, 0, 0, 0, 0, 0, 0, 0, 0, 0, 0, 0, 0, 0, 0, 0] : List UInt8) ([59, 163, 237, 253, 122, 123, 18, 178, 122, 199, 44, 62, 103, 118, 143, 97, 127, 200, 27, 195, 136, 138, 81, 50, 58, 159, 184, 170, 75, 30, 94, 74] : List UInt8) 1231006505 486604799 2083236893).toArray)], by kernel_rfl, ?_⟩
  refine GL.run (j := 11) 1 [13, 14, 15] [(13, .bool true), (14, .agg (hdC 1 ([0, 0, 0, 0, 0, 0, 0, 0, 0, 0, 0, 0, 0, 0, 0, 0, 0, 0, 0, 0, 0, 0, 0, 0, 0, 0, 0, 0, 0, 0, 0, 0] : List UInt8) ([59, 163, 237, 253, 122, 123, 18, 178, 122, 199, 44, 62, 103, 118, 143, 97, 127, 200, 27, 195, 136, 138, 81, 50, 58, 159, 184, 170, 75, 30, 94, 74] : List UInt8) 1231006505 486604799 2083236893).toArray), (15, .agg #[.int .u64 0, .int .u64 0, .int .u64 0, .int .u64 0])] (by kernel_rfl) rfl ?_
  refine GL.call (j := 12) (Lit8_calls w16) (by kernel_rfl) rfl (fun e_ w19 hR => ?_)
  obtain ⟨rfl, H21⟩ := hR
  have H20 : Hp w [] [] w19 := H17.callNil H21
  refine ⟨_, rfl, [13, 14, 16], [(13, .bool true), (14, .agg (hdC 1 ([0, 0, 0, 0, 0, 0, 0, 0, 0, 0, 0, 0, 0, 0, 0, 0, 0, 0, 0, 0, 0, 0, 0, 0, 0, 0, 0, 0, 0, 0, 0, 0] : List UInt8) ([59, 163, 237, 253, 122, 123, 18, 178, 122, 199, 44, 62, 103, 118, 143, 97, 127, 200, 27, 195, 136, 138, 81, 50, 58, 159, 184, 170, 75, 30, 94, 74] : List UInt8) 1231006505 486604799 2083236893).toArray), (16, .agg #[.int .u64 18446744073709551615, .int .u64 18446744073709551615, .int .u64 18446744073709551615, .int .u64 18446744073709551615])], by kernel_rfl, ?_⟩
  refine GL.call (j := 13) (Check0_calls w19) (by kernel_rfl) rfl (fun e_ w22 hR => ?_)
  obtain ⟨rfl, H24⟩ := hR
  have H23 : Hp w [] [] w22 := H20.callNil H24
  refine ⟨_, rfl, [13, 17], [(13, .bool true), (17, .int .i64 0)], by kernel_rfl, ?_⟩
  refine GL.run (j := 16) 3 [0] [(0, .bool true)] (by kernel_rfl) rfl ?_
  refine GL.k rfl hK15 (fun _ _ h => h) ?_
  refine G.ret ?_
  intro F_ hF_ hM_
  refine hRet _ _ (bodyPost_1 rfl (RV.tmp rfl) ?_ F_ hF_ hM_)
  exact ⟨rfl, H23.sub (List.nil_sublist _)⟩
end Go.Proofs.Ytdepaaphgfapjaa
namespace Go.Proofs.Ytdepaaphgfapjaa
open Go.RowKit
theorem val_takeD (ds : List Nat) (m : Nat) : val (ds.take (m + 1)) = val (ds.take m) + 65536 ^ m * ds.getD m 0 := by
  by_cases h : m < ds.length
  · exact val_take (getD_at h)
  · rw [List.take_of_length_le (by omega), List.take_of_length_le (by omega), List.getD_eq_getElem?_getD, List.getElem?_eq_none (by omega)]
    simp
theorem ok_take {ds : List Nat} (h : ok16 ds) (m : Nat) : ok16 (ds.take m) := fun d hd => h d (List.mem_of_mem_take hd)
theorem val_take_lt {ds : List Nat} (h : ok16 ds) (m : Nat) : val (ds.take m) < 65536 ^ m := by
  refine Nat.lt_of_lt_of_le (val_lt (ok_take h m)) (Nat.pow_le_pow_right (by decide) ?_)
  rw [List.length_take]
  omega
theorem pw_round {xs ds : List Nat} {x cy d t i : Nat} (hl : xs.length = i) (hv : val xs + 65536 ^ i * cy = val (ds.take i) * x) (hd : ds.getD i 0 = d) (ht : t = cy + d * x) :
    val (xs ++ [t % 65536]) + 65536 ^ (i + 1) * (t / 65536) = val (ds.take (i + 1)) * x := by
  rw [val_snoc, hl, val_takeD, hd, Nat.add_mul, ← hv, Nat.pow_succ]
  generalize 65536 ^ i = B
  have e : B * t = B * (t % 65536) + B * 65536 * (t / 65536) := by rw [Nat.mul_assoc, ← Nat.mul_add, Nat.mod_add_div]
  have e2 : B * t = B * cy + B * d * x := by rw [ht, Nat.mul_add, Nat.mul_assoc]
  omega
theorem pw_in {xs ds : List Nat} {x cy i : Nat} (hv : val xs + 65536 ^ i * cy = val (ds.take i) * x) (hr : val ds * x < 65536 ^ 16) (hl : ds.length ≤ 16) (h : i < ds.length ∨ 0 < cy) : i < 16 := by
  by_cases hi : i < ds.length
  · omega
  · rw [List.take_of_length_le (by omega)] at hv
    have h1 : 65536 ^ i ≤ 65536 ^ i * cy := Nat.le_mul_of_pos_right _ (by omega)
    exact (Nat.pow_lt_pow_iff_right (a := 65536) (by decide)).1 (by omega)
theorem pw_carry {cy d x : Nat} (hx : x < 68719476736) (hc : cy < 137438953472) (hd : d < 65536) : d * x < 4503599627370496 ∧ (cy + d * x) / 65536 < 137438953472 := by
  have h := Nat.mul_le_mul_right x (show d ≤ 65535 by omega)
  omega
theorem pw_room {x m : Nat} (hx : x < 68719476736) (hm : m < 3) : x ^ m * x < 65536 ^ 16 := by
  rw [← Nat.pow_succ]
  refine Nat.lt_of_le_of_lt (Nat.pow_le_pow_left (Nat.le_of_lt hx) (m + 1)) ?_
  exact Nat.lt_of_le_of_lt (Nat.pow_le_pow_right (by decide) (show m + 1 ≤ 3 by omega)) (by decide)
theorem getD_ok {ds : List Nat} (h : ok16 ds) (i : Nat) : ds.getD i 0 < 65536 := by
  by_cases hi : i < ds.length
  · exact h _ (List.mem_of_getElem? (getD_at hi))
  · rw [List.getD_eq_getElem?_getD, List.getElem?_eq_none (by omega)]
    decide
theorem cmp_step {a b : List Nat} {i : Nat} (ha : ok16 a) (hb : ok16 b) : (a.getD i 0 ≠ b.getD i 0 → decide (val (b.take (i + 1)) < val (a.take (i + 1))) = decide (b.getD i 0 < a.getD i 0)) ∧
    (a.getD i 0 = b.getD i 0 → decide (val (b.take (i + 1)) < val (a.take (i + 1))) = decide (val (b.take i) < val (a.take i))) := by
  rw [val_takeD, val_takeD]
  have h1 := val_take_lt ha i
  have h2 := val_take_lt hb i
  generalize val (a.take i) = x at *
  generalize val (b.take i) = y at *
  generalize a.getD i 0 = d
  generalize b.getD i 0 = e
  generalize 65536 ^ i = B at *
  constructor
  · intro h
    rcases Nat.lt_or_gt_of_ne h with h | h
    · have := Nat.mul_le_mul_left B (show d + 1 ≤ e from h)
      rw [Nat.mul_add] at this
      rw [decide_eq_false (by omega), decide_eq_false (by omega)]
    · have := Nat.mul_le_mul_left B (show e + 1 ≤ d from h)
      rw [Nat.mul_add] at this
      rw [decide_eq_true (by omega), decide_eq_true (by omega)]
  · intro h
    subst h
    rw [decide_eq_decide]
    omega
def rootS (p n : Nat) : Nat → Nat
  | 0 => 0
  | j + 1 => if (rootS p n j + 2 ^ (35 - j)) ^ n ≤ p * 65536 ^ (2 * n) then rootS p n j + 2 ^ (35 - j) else rootS p n j
theorem rootS_le (p n : Nat) : ∀ j, j ≤ 36 → rootS p n j + 2 ^ (36 - j) ≤ 68719476736
  | 0, _ => by
    show 0 + 2 ^ 36 ≤ _
    decide
  | j + 1, h => by
    have ih := rootS_le p n j (by omega)
    have e : 2 ^ (36 - j) = 2 ^ (35 - j) + 2 ^ (35 - j) := by
      rw [show 36 - j = (35 - j) + 1 by omega, Nat.pow_succ]
      omega
    have h0 : 0 < 2 ^ (35 - j) := Nat.pow_pos (by decide)
    rw [rootS, show 36 - (j + 1) = 35 - j by omega]
    split <;> omega
theorem rootS_spec (p : Nat) {n : Nat} (h0 : p * 65536 ^ (2 * n) < 68719476736 ^ n) (hn : n ≠ 0) : ∀ j, j ≤ 36 → rootS p n j ^ n ≤ p * 65536 ^ (2 * n) ∧ p * 65536 ^ (2 * n) < (rootS p n j + 2 ^ (36 - j)) ^ n
  | 0, _ => by
    constructor
    · show 0 ^ n ≤ _
      rw [Nat.zero_pow (by omega)]
      exact Nat.zero_le _
    · have e : rootS p n 0 + 2 ^ (36 - 0) = 68719476736 := by
        rw [rootS, Nat.zero_add]
      rw [e]
      exact h0
  | j + 1, h => by
    obtain ⟨h1, h2⟩ := rootS_spec p h0 hn j (by omega)
    have e : 2 ^ (36 - j) = 2 ^ (35 - j) + 2 ^ (35 - j) := by
      rw [show 36 - j = (35 - j) + 1 by omega, Nat.pow_succ]
      omega
    rw [e, ← Nat.add_assoc] at h2
    rw [rootS, show 36 - (j + 1) = 35 - j by omega]
    split
    · exact ⟨by assumption, h2⟩
    · exact ⟨h1, by omega⟩
theorem root_is {p n r : Nat} (hn : n ≠ 0) (h0 : p * 65536 ^ (2 * n) < 68719476736 ^ n) (h1 : r ^ n ≤ p * 65536 ^ (2 * n)) (h2 : p * 65536 ^ (2 * n) < (r + 1) ^ n) : rootS p n 36 = r := by
  obtain ⟨h3, h4⟩ := rootS_spec p h0 hn 36 (Nat.le_refl _)
  rw [show 2 ^ (36 - 36) = 1 from rfl] at h4
  have a := (Nat.pow_lt_pow_iff_left hn).1 (Nat.lt_of_le_of_lt h3 h2)
  have b := (Nat.pow_lt_pow_iff_left hn).1 (Nat.lt_of_le_of_lt h1 h4)
  omega
theorem rootS_room {p n j : Nat} (h : j < 36) : rootS p n j + 2 ^ (35 - j) < 68719476736 := by
  have h1 := rootS_le p n j (by omega)
  have e : 2 ^ (36 - j) = 2 ^ (35 - j) + 2 ^ (35 - j) := by
    rw [show 36 - j = (35 - j) + 1 by omega, Nat.pow_succ]
    omega
  have : 0 < 2 ^ (35 - j) := Nat.pow_pos (by decide)
  omega
theorem run_shl1 {P : Program} {t : TypeId} {k' : IntKind} {r : Nat} (hr : r < 64) (w : World) : (binOp .shl t (.int .u64 1) (.int k' (r : Int))).run P w = .ok (.int .u64 ((2 ^ r : Nat) : Int)) w := by
  have h := run_shlN (P := P) (t := t) (k' := k') (a := 1) (r := r) (by omega) w
  rw [Nat.one_mul, Nat.mod_eq_of_lt (by simpa [K] using Nat.pow_lt_pow_right (a := 2) (by decide) hr)] at h
  exact h
theorem w_u32 (x : Nat) : IntKind.u32.wrap (x : Int) = ((x % W32 : Nat) : Int) := by
  rw [IntKind.wrap_u32]
  simp only [W32]
  omega
def prF : Nat → List Nat
  | 0 => []
  | k + 1 => if (prF k).all (fun q => decide ((k + 2) % q ≠ 0)) = true then prF k ++ [k + 2] else prF k
theorem prF_mono (k d : Nat) : (prF k).length ≤ (prF (k + d)).length := by
  induction d with
  | zero => exact Nat.le_refl _
  | succ d ih =>
    refine Nat.le_trans ih ?_
    show _ ≤ (prF (k + d + 1)).length
    rw [prF]
    split
    · rw [List.length_append]; omega
    · exact Nat.le_refl _
theorem prF_ge (k : Nat) : ∀ q ∈ prF k, 2 ≤ q := by
  induction k with
  | zero => intro q h; simp [prF] at h
  | succ k ih =>
    intro q h
    rw [prF] at h
    split at h
    · rcases List.mem_append.1 h with h | h
      · exact ih q h
      · rw [List.mem_singleton.1 h]; omega
    · exact ih q h
def PR : List Nat := [2, 3, 5, 7, 11, 13, 17, 19, 23, 29, 31, 37, 41, 43, 47, 53, 59, 61, 67, 71, 73, 79, 83, 89, 97, 101, 103, 107, 109, 113, 127, 131, 137, 139, 149, 151, 157, 163, 167, 173, 179, 181, 191, 193, 197, 199, 211, 223, 227, 229, 233, 239, 241, 251, 257, 263, 269, 271, 277, 281, 283, 293, 307, 311]
theorem prF_all : prF 310 = PR := by kernel_rfl
theorem prF_63 : (prF 309).length = 63 := by kernel_rfl
theorem prF_in {k : Nat} (h : (prF k).length < 64) : k < 310 := by
  by_cases hk : k < 310
  · exact hk
  · have h1 := prF_mono 310 (k - 310)
    rw [show 310 + (k - 310) = k by omega, prF_all] at h1
    have : PR.length = 64 := rfl
    omega
theorem prF_out {k : Nat} (hk : k ≤ 310) (h : ¬ (prF k).length < 64) : k = 310 := by
  by_cases h9 : k ≤ 309
  · have h1 := prF_mono k (309 - k)
    rw [show k + (309 - k) = 309 by omega, prF_63] at h1
    omega
  · omega
theorem all_take {f : Nat → Bool} {l : List Nat} {j d : Nat} (h : l[j]? = some d) : (l.take (j + 1)).all f = ((l.take j).all f && f d) := by
  rw [List.take_add_one, h]
  simp
def R3L : List Nat := [5411319704, 6194414737, 7344290767, 8215976869, 9551921755, 10098905585, 11043570340, 11460697813, 12214315672, 13195500289, 13492127166, 14311783875, 14809980276, 15046980094, 15499789991, 16133124468, 16720292289, 16907126662, 17444216262, 17784676812, 17950125167, 18429019306, 18734950876, 19175934170, 19734090066, 20001703533, 20132865992, 20390182855, 20516441075, 20764397895, 21588763473, 21813078375, 22141143685, 22248366392, 22769593852, 22871018771, 23170020180, 23461497531, 23651862830, 23931792517, 24205322401, 24295138891, 24734567280, 24820601251, 24990902297, 25075189284, 25569408389, 26045227120, 26200031510, 26276752392, 26428864332, 26653801653, 26727943347, 27092625994, 27306805839, 27517677555, 27725365998, 27793908591, 27997534228, 28131656200, 28198240250, 28526537963, 28973835255, 29099129074]
def H0L : List Nat := [0x6a09e667, 0xbb67ae85, 0x3c6ef372, 0xa54ff53a, 0x510e527f, 0x9b05688c, 0x1f83d9ab, 0x5be0cd19]
def R2L : List Nat := [6074000999, 7439101573, 9603838834, 11363415354, 14244795007, 15485724812, 17708603819, 18721328409]
theorem roots3 : ∀ i, i < 64 → PR.getD i 0 * 65536 ^ (2 * 3) < 68719476736 ^ 3 ∧ R3L.getD i 0 ^ 3 ≤ PR.getD i 0 * 65536 ^ (2 * 3) ∧ PR.getD i 0 * 65536 ^ (2 * 3) < (R3L.getD i 0 + 1) ^ 3 ∧ R3L.getD i 0 % W32 = KT.getD i 0 := of_decide_eq_true (by kernel_rfl)
theorem roots2 : ∀ i, i < 8 → PR.getD i 0 * 65536 ^ (2 * 2) < 68719476736 ^ 2 ∧ R2L.getD i 0 ^ 2 ≤ PR.getD i 0 * 65536 ^ (2 * 2) ∧ PR.getD i 0 * 65536 ^ (2 * 2) < (R2L.getD i 0 + 1) ^ 2 ∧ R2L.getD i 0 % W32 = H0L.getD i 0 := of_decide_eq_true (by kernel_rfl)
theorem root3_at {i : Nat} (h : i < 64) : rootS (PR.getD i 0) 3 36 % W32 = KT.getD i 0 := by
  obtain ⟨h0, h1, h2, h3⟩ := roots3 i h
  rw [root_is (by decide) h0 h1 h2, h3]
theorem root2_at {i : Nat} (h : i < 8) : rootS (PR.getD i 0) 2 36 % W32 = H0L.getD i 0 := by
  obtain ⟨h0, h1, h2, h3⟩ := roots2 i h
  rw [root_is (by decide) h0 h1 h2, h3]
theorem PR_lt (i : Nat) : PR.getD i 0 < 65536 := getD_ok (by unfold PR ok16; decide) i
theorem Digit_calls (ds : List Nat) (i n : Nat) (A : Option Addr) (c : Nat) (w : World) (hr : RdS w A (dg ds)) (hn : n = ds.length) : Calls Try.prog 70 #[.slice A n c, .int .i64 (i : Int)] w fun e w' => e = .returned (.int .u64 ((ds.getD i 0 : Nat) : Int)) ∧ Hp w [] [] w' := by
  subst hn
  refine calls_G (args := [.slice A ds.length c, .int .i64 (i : Int)]) Try.func70 rfl Try.ntmps70 rfl ?_
  intro Q0 hRet hNor hPan
  have H := Hp.start w
  have H : Hp w [] [] w := H
  refine G.seqK fun K1 hK2 => ?_
  refine G.region ?_
  refine GL.run (j := 1) 1 [0, 1] [(0, .slice A ds.length c), (1, .int .i64 (i : Int))] (by kernel_rfl) rfl ?_
  refine GL.k rfl hK2 (fun _ _ h => h) ?_
  refine G.seqK fun K3 hK4 => ?_
  refine G.seqK fun K5 hK6 => ?_
  refine G.region ?_
  refine GL.run (j := 4) 4 [0, 1, 8] [(0, .slice A ds.length c), (1, .int .i64 (i : Int)), (8, .bool (decide ((i : Int) < (ds.length : Int))))] (by kernel_rfl) rfl ?_
  refine GL.k rfl hK6 (fun _ _ h => h) ?_
  cases hb7 : (decide ((i : Int) < (ds.length : Int)))
  · skip
    have hb7f := of_decide_eq_false hb7
    refine G.no rfl ?_
    refine G.skipK hK4 (fun _ _ h => h) ?_
    refine G.seqK fun K8 hK9 => ?_
    refine G.region ?_
    refine GL.run (j := 1) 1 [4] [(4, .int .u64 0)] (by kernel_rfl) rfl ?_
    refine GL.k rfl hK9 (fun _ _ h => h) ?_
    refine G.ret ?_
    intro F_ hF_ hM_
    refine hRet _ _ (bodyPost_1 rfl (RV.tmp rfl) ?_ F_ hF_ hM_)
    rw [show ds.getD i 0 = 0 by rw [List.getD_eq_getElem?_getD, List.getElem?_eq_none (by omega)]; rfl]
    exact ⟨rfl, H.sub (List.nil_sublist _)⟩
  · skip
    have hb7f := of_decide_eq_true hb7
    refine G.yes rfl ?_
    refine G.seqK fun K10 hK11 => ?_
    refine G.region ?_
    refine GL.run (j := 2) 2 [9, 10] [(9, .slice A ds.length c), (10, .int .i64 (i : Int))] (by kernel_rfl) rfl ?_
    refine GL.sem (j := 3) (run_idxRd (P := Try.prog) (k := .i64) (t := 34) (A := A) (len := ds.length) (cap := c) (j := i) (by kernel_rfl) rfl (hr.hp H) (by first | exact dg_length _ | rw [dg_length]; first | rfl | assumption | (symm; assumption) | (simp; done) | (rw [List.length_take]; omega) | omega) (by first | rfl | omega | (simp only [List.length_cons, List.length_nil, List.length_drop, List.length_take, List.length_append] <;> omega))) [11] [(11, .pointer (Option.map (fun x => Addr.add x i) A))] (by kernel_rfl) (by kernel_rfl) rfl ?_
    refine GL.sem (j := 4) (run_ldRd (P := Try.prog) (ty := 31) (A := A) (j := i) (v := .int .u64 (((ds.getD i 0) : Nat) : Int)) (by kernel_rfl) (hr.hp H) (dg_at (getD_at (by omega)))) [12] [(12, .int .u64 (((ds.getD i 0) : Nat) : Int))] (by kernel_rfl) (by kernel_rfl) rfl ?_
    refine GL.run (j := 5) 1 [4] [(4, .int .u64 (((ds.getD i 0) : Nat) : Int))] (by kernel_rfl) rfl ?_
    refine GL.k rfl hK11 (fun _ _ h => h) ?_
    refine G.ret ?_
    intro F_ hF_ hM_
    refine hRet _ _ (bodyPost_1 rfl (RV.tmp rfl) ?_ F_ hF_ hM_)
    exact ⟨rfl, H.sub (List.nil_sublist _)⟩
theorem Power_calls (x n : Nat) (hx : x < 68719476736) (hn : n ≤ 3) (w : World) : Calls Try.prog 69 #[.int .u64 (x : Int), .int .i64 (n : Int)] w fun e w' => ∃ ds A c, e = .returned (.slice A ds.length c) ∧ Hp w [] [.row A ds.length c 31 1 (dg ds)] w' ∧ ok16 ds ∧ ds.length ≤ 16 ∧ val ds = x ^ n := by
  have hMX : MX = 4611686018427387904 := rfl
  have hK0 : K = 18446744073709551616 := rfl
  have hK40 : K4 = 115792089237316195423570985008687907853269984665640564039457584007913129639936 := rfl
  refine calls_G (args := [.int .u64 (x : Int), .int .i64 (n : Int)]) Try.func69 rfl Try.ntmps69 rfl ?_
  intro Q0 hRet hNor hPan
  have H := Hp.start w
  have H : Hp w [] [] w := H
  refine G.seqK fun K1 hK2 => ?_
  refine G.region ?_
  refine GL.run (j := 1) 1 [0, 1] [(0, .int .u64 (x : Int)), (1, .int .i64 (n : Int))] (by kernel_rfl) rfl ?_
  refine GL.k rfl hK2 (fun _ _ h => h) ?_
  refine G.seqK fun K3 hK4 => ?_
  refine G.region ?_
  obtain ⟨p5, w6, r7, H8⟩ := H.madeRow (P := Try.prog) (Instr.buildSlice 34 1 #[(0, .int .u64 1)]) (fun b_ => .slice (some ⟨b_, 0, none⟩) 1 1) [.int .u64 1] 31 1 1 1 (by kernel_rfl) (by decide) (by decide) rfl
  have H8 : Hp w [] [.row (some ⟨p5, 0, none⟩) 1 1 31 1 (dg [1])] w6 := H8
  refine GL.sem (j := 1) (r7) [0, 1, 9] [(0, .int .u64 (x : Int)), (1, .int .i64 (n : Int)), (9, .slice (some ⟨p5, 0, none⟩) 1 1)] (by kernel_rfl) (by kernel_rfl) rfl ?_
  refine GL.run (j := 2) 1 [0, 1, 5] [(0, .int .u64 (x : Int)), (1, .int .i64 (n : Int)), (5, .slice (some ⟨p5, 0, none⟩) 1 1)] (by kernel_rfl) rfl ?_
  refine GL.k rfl hK4 (fun _ _ h => h) ?_
  refine G.seqK fun K9 hK10 => ?_
  refine G.block ?_
  have H11 : Hp w [] [.row (some ⟨p5, 0, none⟩) ([1].length) 1 31 1 (dg [1])] w6 := H8
  refine G.fit [0, 1, 5] (M' := [(0, .int .u64 (x : Int)), (1, .int .i64 (n : Int)), (5, .slice (some ⟨p5, 0, none⟩) ([1].length) 1)]) (by kernel_rfl) ?_
  refine G.eq (M' := [(0, .int .u64 (x : Int)), (1, .int .i64 (((n - 0) : Nat) : Int)), (5, .slice (some ⟨p5, 0, none⟩) ([1].length) 1)]) (by rfl) ?_
  refine G.loop (X := Nat × List Nat × Option Addr × Nat) (fun ⟨m, ds, A_, c_⟩ => [(0, .int .u64 (x : Int)), (1, .int .i64 (((n - m) : Nat) : Int)), (5, .slice A_ ds.length c_)]) (fun ⟨m, ds, A_, c_⟩ w_ => (m ≤ n ∧ ok16 ds ∧ ds.length ≤ 16 ∧ val ds = x ^ m) ∧ Hp w [] [.row A_ ds.length c_ 31 1 (dg ds)] w_) (fun ⟨m, ds, A_, c_⟩ => n - m) ⟨0, [1], (some ⟨p5, 0, none⟩), 1⟩ [0, 1, 5] (by kernel_rfl) ⟨⟨Nat.zero_le _, by intro d hd; rw [List.mem_singleton.1 hd]; decide, by decide, rfl⟩, H11⟩ ?_
  rintro ⟨m, ds, A_, c_⟩ w12 ⟨hi13, H14⟩
  refine G.eq (M' := [(0, .int .u64 (x : Int)), (1, .int .i64 (((n - m) : Nat) : Int)), (5, .slice A_ ds.length c_)]) rfl ?_
  have H14 : Hp w [] [.row A_ ds.length c_ 31 1 (dg ds)] w12 := H14
  obtain ⟨hmn, hdok, hdl, hdv⟩ := hi13
  refine G.seqK fun K15 hK16 => ?_
  refine G.seqK fun K17 hK18 => ?_
  refine G.region ?_
  refine GL.run (j := 2) 2 [0, 1, 5, 11] [(0, .int .u64 (x : Int)), (1, .int .i64 (((n - m) : Nat) : Int)), (5, .slice A_ ds.length c_), (11, .bool (decide (0 < (((n - m) : Nat) : Int))))] (by kernel_rfl) rfl ?_
  refine GL.k rfl hK18 (fun _ _ h => h) ?_
  cases hb19 : (decide (0 < (((n - m) : Nat) : Int)))
  · skip
    have hb19f := of_decide_eq_false hb19
    refine G.no rfl ?_
    refine G.exitK hK10 (fun _ _ h => h) ?_
    refine G.seqK fun K20 hK21 => ?_
    refine G.region ?_
    refine GL.run (j := 2) 2 [4] [(4, .slice A_ ds.length c_)] (by kernel_rfl) rfl ?_
    refine GL.k rfl hK21 (fun _ _ h => h) ?_
    refine G.ret ?_
    intro F_ hF_ hM_
    refine hRet _ _ (bodyPost_1 rfl (RV.tmp rfl) ?_ F_ hF_ hM_)
    have hm9 : m = n := by omega
    exact ⟨ds, _, _, rfl, H14, hdok, hdl, by rw [hdv, hm9]⟩
  · skip
    have hb19f := of_decide_eq_true hb19
    refine G.yes rfl ?_
    refine G.skipK hK16 (fun _ _ h => h) ?_
    refine G.seqK fun K22 hK23 => ?_
    refine G.block ?_
    refine G.seqK fun K24 hK25 => ?_
    refine G.region ?_
    obtain ⟨p26, w27, r28, H29⟩ := H14.madeRow (P := Try.prog) (Instr.buildSlice 34 0 #[]) (fun b_ => .slice (some ⟨b_, 0, none⟩) 0 0) [] 31 0 0 1 (by kernel_rfl) (by decide) (by decide) rfl
    have H29 : Hp w [] [.row A_ ds.length c_ 31 1 (dg ds), .row (some ⟨p26, 0, none⟩) 0 0 31 1 (dg [])] w27 := H29
    refine GL.sem (j := 1) (r28) [0, 1, 5, 14] [(0, .int .u64 (x : Int)), (1, .int .i64 (((n - m) : Nat) : Int)), (5, .slice A_ ds.length c_), (14, .slice (some ⟨p26, 0, none⟩) 0 0)] (by kernel_rfl) (by kernel_rfl) rfl ?_
    refine GL.run (j := 2) 1 [0, 1, 5, 6] [(0, .int .u64 (x : Int)), (1, .int .i64 (((n - m) : Nat) : Int)), (5, .slice A_ ds.length c_), (6, .slice (some ⟨p26, 0, none⟩) 0 0)] (by kernel_rfl) rfl ?_
    refine GL.k rfl hK25 (fun _ _ h => h) ?_
    refine G.seqK fun K30 hK31 => ?_
    refine G.region ?_
    refine GL.run (j := 1) 1 [0, 1, 5, 6, 7] [(0, .int .u64 (x : Int)), (1, .int .i64 (((n - m) : Nat) : Int)), (5, .slice A_ ds.length c_), (6, .slice (some ⟨p26, 0, none⟩) 0 0), (7, .int .u64 0)] (by kernel_rfl) rfl ?_
    refine GL.k rfl hK31 (fun _ _ h => h) ?_
    refine G.seqK fun K32 hK33 => ?_
    refine G.seqK fun K34 hK35 => ?_
    refine G.region ?_
    refine GL.run (j := 1) 1 [0, 1, 5, 6, 7, 8] [(0, .int .u64 (x : Int)), (1, .int .i64 (((n - m) : Nat) : Int)), (5, .slice A_ ds.length c_), (6, .slice (some ⟨p26, 0, none⟩) 0 0), (7, .int .u64 0), (8, .int .i64 0)] (by kernel_rfl) rfl ?_
    refine GL.k rfl hK35 (fun _ _ h => h) ?_
    refine G.block ?_
    have hpr : val ds * x < 65536 ^ 16 := by rw [hdv]; exact pw_room hx (by omega)
    refine G.fit [0, 1, 5, 6, 7, 8] (M' := [(0, .int .u64 (x : Int)), (1, .int .i64 (((n - m) : Nat) : Int)), (5, .slice A_ ds.length c_), (6, .slice (some ⟨p26, 0, none⟩) 0 0), (7, .int .u64 0), (8, .int .i64 0)]) (by kernel_rfl) ?_
    refine G.loop (X := Nat × Nat × List Nat × Option Addr × Nat) (fun ⟨i, cy, xs, X_, d_⟩ => [(0, .int .u64 (x : Int)), (1, .int .i64 (((n - m) : Nat) : Int)), (5, .slice A_ ds.length c_), (6, .slice X_ i d_), (7, .int .u64 (cy : Int)), (8, .int .i64 (i : Int))]) (fun ⟨i, cy, xs, X_, d_⟩ w_ => (xs.length = i ∧ ok16 xs ∧ cy < 137438953472 ∧ i ≤ 16 ∧ val xs + 65536 ^ i * cy = val (ds.take i) * x) ∧ Hp w [] [.row A_ ds.length c_ 31 1 (dg ds), .row X_ i d_ 31 1 (dg xs)] w_) (fun ⟨i, cy, xs, X_, d_⟩ => 16 - i) ⟨0, 0, [], (some ⟨p26, 0, none⟩), 0⟩ [0, 1, 5, 6, 7, 8] (by kernel_rfl) ⟨⟨rfl, ok_nil, by decide, by omega, by rw [List.take_zero]; simp [val]⟩, H29⟩ ?_
    rintro ⟨i, cy, xs, X_, d_⟩ w36 ⟨hi37, H38⟩
    refine G.eq (M' := [(0, .int .u64 (x : Int)), (1, .int .i64 (((n - m) : Nat) : Int)), (5, .slice A_ ds.length c_), (6, .slice X_ i d_), (7, .int .u64 (cy : Int)), (8, .int .i64 (i : Int))]) rfl ?_
    have H38 : Hp w [] [.row A_ ds.length c_ 31 1 (dg ds), .row X_ i d_ 31 1 (dg xs)] w36 := H38
    obtain ⟨hxl, hxok, hcy, hi16, hxv⟩ := hi37
    refine G.seqK fun K39 hK40 => ?_
    refine G.seqK fun K41 hK42 => ?_
    refine G.region ?_
    refine GL.run (j := 5) 5 [0, 1, 5, 6, 7, 8, 19] [(0, .int .u64 (x : Int)), (1, .int .i64 (((n - m) : Nat) : Int)), (5, .slice A_ ds.length c_), (6, .slice X_ i d_), (7, .int .u64 (cy : Int)), (8, .int .i64 (i : Int)), (19, .bool (decide ((i : Int) < (ds.length : Int))))] (by kernel_rfl) rfl ?_
    cases hb43 : (decide ((i : Int) < (ds.length : Int)))
    · skip
      have hb43f := of_decide_eq_false hb43
      refine GL.run (j := 8) 3 [0, 1, 5, 6, 7, 8, 22] [(0, .int .u64 (x : Int)), (1, .int .i64 (((n - m) : Nat) : Int)), (5, .slice A_ ds.length c_), (6, .slice X_ i d_), (7, .int .u64 (cy : Int)), (8, .int .i64 (i : Int)), (22, .bool (decide (0 < (cy : Int))))] (by kernel_rfl) rfl ?_
      refine GL.k rfl hK42 (fun _ _ h => h) ?_
      cases hb44 : (decide (0 < (cy : Int)))
      · skip
        have hb44f := of_decide_eq_false hb44
        have hcy0 : cy = 0 := by omega
        refine G.no rfl ?_
        refine G.exitK hK33 (fun _ _ h => h) ?_
        refine G.region ?_
        refine GL.run (j := 2) 2 [0, 1, 5] [(0, .int .u64 (x : Int)), (1, .int .i64 (((n - m) : Nat) : Int)), (5, .slice X_ i d_)] (by kernel_rfl) rfl ?_
        refine GL.k rfl hK23 (fun _ _ h => h) ?_
        refine G.region ?_
        refine GL.run (j := 3) 3 [0, 1, 5] [(0, .int .u64 (x : Int)), (1, .int .i64 (IntKind.i64.wrap ((((n - m) : Nat) : Int) - 1))), (5, .slice X_ i d_)] (by kernel_rfl) rfl ?_
        have e45 : (IntKind.i64.wrap ((((n - m) : Nat) : Int) - 1)) = (((n - m) - 1 : Nat) : Int) := by rw [in_i64 (by omega)]; omega
        refine GL.eq (M' := [(0, .int .u64 (x : Int)), (1, .int .i64 (((n - m) - 1 : Nat) : Int)), (5, .slice X_ i d_)]) (by rw [e45]) ?_
        clear e45
        have H46 : Hp w [] [.row X_ i d_ 31 1 (dg xs)] w36 := H38.sub (List.Sublist.cons _ (List.Sublist.cons_cons _ (List.Sublist.slnil)))
        have hxv2 : val xs = val ds * x := by rw [hcy0, Nat.mul_zero, Nat.add_zero, List.take_of_length_le (by omega)] at hxv; exact hxv
        obtain rfl := hxl
        have H47 : Hp w [] [.row X_ xs.length d_ 31 1 (dg xs)] w36 := H46
        refine GL.fit (ts := [0, 1, 5]) (M' := [(0, .int .u64 (x : Int)), (1, .int .i64 (((n - m) - 1 : Nat) : Int)), (5, .slice X_ xs.length d_)]) (by kernel_rfl) ?_
        refine GL.eq (M' := [(0, .int .u64 (x : Int)), (1, .int .i64 (((n - (m + 1)) : Nat) : Int)), (5, .slice X_ xs.length d_)]) (by rw [show n - m - 1 = n - (m + 1) by omega]) ?_
        exact GL.again ⟨(m + 1), xs, X_, d_⟩ [0, 1, 5] rfl (by kernel_rfl) (by show n - (m + 1) < n - m; omega) ⟨⟨by omega, hxok, by omega, by rw [hxv2, hdv, Nat.pow_succ]⟩, H47⟩
      · skip
        have hb44f := of_decide_eq_true hb44
        have hi15 : i < 16 := pw_in hxv hpr hdl (by omega)
        refine G.yes rfl ?_
        refine G.skipK hK40 (fun _ _ h => h) ?_
        refine G.seqK fun K48 hK49 => ?_
        refine G.block ?_
        refine G.seqK fun K50 hK51 => ?_
        refine G.seqK fun K52 hK53 => ?_
        refine G.region ?_
        refine GL.run (j := 4) 4 [0, 1, 5, 6, 7, 8, 28] [(0, .int .u64 (x : Int)), (1, .int .i64 (((n - m) : Nat) : Int)), (5, .slice A_ ds.length c_), (6, .slice X_ i d_), (7, .int .u64 (cy : Int)), (8, .int .i64 (i : Int)), (28, .bool (decide ((i : Int) < (ds.length : Int))))] (by kernel_rfl) rfl ?_
        refine GL.k rfl hK53 (fun _ _ h => h) ?_
        have hb54 : (decide ((i : Int) < (ds.length : Int))) = false := by assumption
        rw [hb54]
        refine G.no rfl ?_
        refine G.skipK hK51 (fun _ _ h => h) ?_
        refine G.seqK fun K55 hK56 => ?_
        refine G.region ?_
        refine GL.run (j := 3) 3 [0, 1, 5, 7, 8, 37, 39] [(0, .int .u64 (x : Int)), (1, .int .i64 (((n - m) : Nat) : Int)), (5, .slice A_ ds.length c_), (7, .int .u64 (cy : Int)), (8, .int .i64 (i : Int)), (37, .slice X_ i d_), (39, .int .u64 (Int.tmod (cy : Int) 65536))] (by kernel_rfl) rfl ?_
        have e57 : (Int.tmod (cy : Int) 65536) = ((cy % 65536 : Nat) : Int) := n_rem _ 65536
        refine GL.eq (M' := [(0, .int .u64 (x : Int)), (1, .int .i64 (((n - m) : Nat) : Int)), (5, .slice A_ ds.length c_), (7, .int .u64 (cy : Int)), (8, .int .i64 (i : Int)), (37, .slice X_ i d_), (39, .int .u64 ((cy % 65536 : Nat) : Int))]) (by rw [e57]) ?_
        clear e57
        obtain ⟨p58, w59, r60, H61⟩ := H38.madeRow (P := Try.prog) (Instr.buildSlice 34 1 #[(0, .int .u64 ((cy % 65536 : Nat) : Int))]) (fun b_ => .slice (some ⟨b_, 0, none⟩) 1 1) [.int .u64 ((cy % 65536 : Nat) : Int)] 31 1 1 1 (by kernel_rfl) (by decide) (by decide) rfl
        have H61 : Hp w [] [.row A_ ds.length c_ 31 1 (dg ds), .row X_ i d_ 31 1 (dg xs), .row (some ⟨p58, 0, none⟩) 1 1 31 1 (dg [cy % 65536])] w59 := H61
        refine GL.sem (j := 4) (r60) [0, 1, 5, 7, 8, 37, 40] [(0, .int .u64 (x : Int)), (1, .int .i64 (((n - m) : Nat) : Int)), (5, .slice A_ ds.length c_), (7, .int .u64 (cy : Int)), (8, .int .i64 (i : Int)), (37, .slice X_ i d_), (40, .slice (some ⟨p58, 0, none⟩) 1 1)] (by kernel_rfl) (by kernel_rfl) rfl ?_
        obtain ⟨A62, c63, w64, r65, H66⟩ := H61.append (P := Try.prog) (e := 31) (sz := 1) (by_ := 8) (n := i) (c := d_) (m := 1) (d := 1) (t := 34) (ty := 34) (xs := dg xs) (news := dg [cy % 65536]) 1 rfl (by kernel_rfl) (H61.rdRow 2 rfl) (by simp [dg_length]) (dg_one _) (by omega) (by simp only [maxLen]; omega)
        rw [← dg_append] at H66
        have H66 : Hp w [] [.row A_ ds.length c_ 31 1 (dg ds), .row A62 (i + 1) c63 31 1 (dg (xs ++ [cy % 65536])), .row (some ⟨p58, 0, none⟩) 1 1 31 1 (dg [cy % 65536])] w64 := H66
        refine GL.sem (j := 5) (r65) [0, 1, 5, 7, 8, 41] [(0, .int .u64 (x : Int)), (1, .int .i64 (((n - m) : Nat) : Int)), (5, .slice A_ ds.length c_), (7, .int .u64 (cy : Int)), (8, .int .i64 (i : Int)), (41, .slice A62 (i + 1) c63)] (by kernel_rfl) (by kernel_rfl) rfl ?_
        refine GL.run (j := 6) 1 [0, 1, 5, 6, 7, 8] [(0, .int .u64 (x : Int)), (1, .int .i64 (((n - m) : Nat) : Int)), (5, .slice A_ ds.length c_), (6, .slice A62 (i + 1) c63), (7, .int .u64 (cy : Int)), (8, .int .i64 (i : Int))] (by kernel_rfl) rfl ?_
        refine GL.k rfl hK56 (fun _ _ h => h) ?_
        refine G.region ?_
        refine GL.run (j := 3) 3 [0, 1, 5, 6, 7, 8] [(0, .int .u64 (x : Int)), (1, .int .i64 (((n - m) : Nat) : Int)), (5, .slice A_ ds.length c_), (6, .slice A62 (i + 1) c63), (7, .int .u64 (IntKind.u64.wrap (Int.tdiv (cy : Int) 65536))), (8, .int .i64 (i : Int))] (by kernel_rfl) rfl ?_
        have e67 : (IntKind.u64.wrap (Int.tdiv (cy : Int) 65536)) = ((cy / 65536 : Nat) : Int) := n_quo 65536 (by omega)
        refine GL.eq (M' := [(0, .int .u64 (x : Int)), (1, .int .i64 (((n - m) : Nat) : Int)), (5, .slice A_ ds.length c_), (6, .slice A62 (i + 1) c63), (7, .int .u64 ((cy / 65536 : Nat) : Int)), (8, .int .i64 (i : Int))]) (by rw [e67]) ?_
        clear e67
        refine GL.k rfl hK49 (fun _ _ h => h) ?_
        refine G.region ?_
        refine GL.run (j := 3) 3 [0, 1, 5, 6, 7, 8] [(0, .int .u64 (x : Int)), (1, .int .i64 (((n - m) : Nat) : Int)), (5, .slice A_ ds.length c_), (6, .slice A62 (i + 1) c63), (7, .int .u64 ((cy / 65536 : Nat) : Int)), (8, .int .i64 (IntKind.i64.wrap ((i : Int) + 1)))] (by kernel_rfl) rfl ?_
        have e68 : (IntKind.i64.wrap ((i : Int) + 1)) = ((i + 1 : Nat) : Int) := by rw [in_i64 (by omega)]; omega
        refine GL.eq (M' := [(0, .int .u64 (x : Int)), (1, .int .i64 (((n - m) : Nat) : Int)), (5, .slice A_ ds.length c_), (6, .slice A62 (i + 1) c63), (7, .int .u64 ((cy / 65536 : Nat) : Int)), (8, .int .i64 ((i + 1 : Nat) : Int))]) (by rw [e68]) ?_
        clear e68
        have H69 : Hp w [] [.row A_ ds.length c_ 31 1 (dg ds), .row A62 (i + 1) c63 31 1 (dg (xs ++ [cy % 65536]))] w64 := H66.sub (List.Sublist.cons_cons _ (List.Sublist.cons_cons _ (List.Sublist.cons _ (List.Sublist.slnil))))
        refine GL.fit (ts := [0, 1, 5, 6, 7, 8]) (M' := [(0, .int .u64 (x : Int)), (1, .int .i64 (((n - m) : Nat) : Int)), (5, .slice A_ ds.length c_), (6, .slice A62 (i + 1) c63), (7, .int .u64 ((cy / 65536 : Nat) : Int)), (8, .int .i64 ((i + 1 : Nat) : Int))]) (by kernel_rfl) ?_
        refine GL.eq (M' := [(0, .int .u64 (x : Int)), (1, .int .i64 (((n - m) : Nat) : Int)), (5, .slice A_ ds.length c_), (6, .slice A62 (i + 1) c63), (7, .int .u64 ((cy / 65536 : Nat) : Int)), (8, .int .i64 (((i + 1) : Nat) : Int))]) (by rfl) ?_
        exact GL.again ⟨(i + 1), cy / 65536, (xs ++ [cy % 65536]), A62, c63⟩ [0, 1, 5, 6, 7, 8] rfl (by kernel_rfl) (by show 16 - (i + 1) < 16 - i; omega) ⟨⟨by rw [List.length_append, hxl]; rfl, ok_snoc hxok (Nat.mod_lt _ (by decide)), by omega, by omega, pw_round hxl hxv ((show ds.getD i 0 = 0 by rw [List.getD_eq_getElem?_getD, List.getElem?_eq_none (by omega)]; rfl)) ((by rw [Nat.zero_mul]; rfl))⟩, H69⟩
    · skip
      have hb43f := of_decide_eq_true hb43
      have hi15 : i < 16 := pw_in hxv hpr hdl (by omega)
      refine GL.run (j := 8) 3 [0, 1, 5, 6, 7, 8, 22] [(0, .int .u64 (x : Int)), (1, .int .i64 (((n - m) : Nat) : Int)), (5, .slice A_ ds.length c_), (6, .slice X_ i d_), (7, .int .u64 (cy : Int)), (8, .int .i64 (i : Int)), (22, .bool true)] (by kernel_rfl) rfl ?_
      refine GL.k rfl hK42 (fun _ _ h => h) ?_
      refine G.yes rfl ?_
      refine G.skipK hK40 (fun _ _ h => h) ?_
      refine G.seqK fun K70 hK71 => ?_
      refine G.block ?_
      refine G.seqK fun K72 hK73 => ?_
      refine G.seqK fun K74 hK75 => ?_
      refine G.region ?_
      refine GL.run (j := 4) 4 [0, 1, 5, 6, 7, 8, 28] [(0, .int .u64 (x : Int)), (1, .int .i64 (((n - m) : Nat) : Int)), (5, .slice A_ ds.length c_), (6, .slice X_ i d_), (7, .int .u64 (cy : Int)), (8, .int .i64 (i : Int)), (28, .bool (decide ((i : Int) < (ds.length : Int))))] (by kernel_rfl) rfl ?_
      refine GL.k rfl hK75 (fun _ _ h => h) ?_
      have hb76 : (decide ((i : Int) < (ds.length : Int))) = true := by assumption
      rw [hb76]
      have hi15 : i < 16 := pw_in hxv hpr hdl (by omega)
      refine G.yes rfl ?_
      refine G.region ?_
      refine GL.run (j := 3) 3 [0, 1, 5, 6, 8, 29, 30, 31] [(0, .int .u64 (x : Int)), (1, .int .i64 (((n - m) : Nat) : Int)), (5, .slice A_ ds.length c_), (6, .slice X_ i d_), (8, .int .i64 (i : Int)), (29, .int .u64 (cy : Int)), (30, .slice A_ ds.length c_), (31, .int .i64 (i : Int))] (by kernel_rfl) rfl ?_
      refine GL.sem (j := 4) (run_idxRd (P := Try.prog) (k := .i64) (t := 34) (A := A_) (len := ds.length) (cap := c_) (j := i) (by kernel_rfl) rfl (H38.rdRow 0 rfl) (by first | exact dg_length _ | rw [dg_length]; first | rfl | assumption | (symm; assumption) | (simp; done) | (rw [List.length_take]; omega) | omega) (by first | rfl | omega | (simp only [List.length_cons, List.length_nil, List.length_drop, List.length_take, List.length_append] <;> omega))) [0, 1, 5, 6, 8, 29, 32] [(0, .int .u64 (x : Int)), (1, .int .i64 (((n - m) : Nat) : Int)), (5, .slice A_ ds.length c_), (6, .slice X_ i d_), (8, .int .i64 (i : Int)), (29, .int .u64 (cy : Int)), (32, .pointer (Option.map (fun x => Addr.add x i) A_))] (by kernel_rfl) (by kernel_rfl) rfl ?_
      obtain ⟨d77, hd78⟩ : ∃ d : Nat, (ds)[i]? = some d := ⟨_, List.getElem?_eq_getElem (by omega)⟩
      have hpc := pw_carry hx hcy (ok_at hdok hd78)
      refine GL.sem (j := 5) (run_ldRd (P := Try.prog) (ty := 31) (A := A_) (j := i) (v := .int .u64 (d77 : Int)) (by kernel_rfl) (H38.rdRow 0 rfl) (dg_at hd78)) [0, 1, 5, 6, 8, 29, 33] [(0, .int .u64 (x : Int)), (1, .int .i64 (((n - m) : Nat) : Int)), (5, .slice A_ ds.length c_), (6, .slice X_ i d_), (8, .int .i64 (i : Int)), (29, .int .u64 (cy : Int)), (33, .int .u64 (d77 : Int))] (by kernel_rfl) (by kernel_rfl) rfl ?_
      refine GL.run (j := 9) 4 [0, 1, 5, 6, 7, 8] [(0, .int .u64 (x : Int)), (1, .int .i64 (((n - m) : Nat) : Int)), (5, .slice A_ ds.length c_), (6, .slice X_ i d_), (7, .int .u64 (IntKind.u64.wrap ((cy : Int) + (IntKind.u64.wrap ((d77 : Int) * (x : Int)))))), (8, .int .i64 (i : Int))] (by kernel_rfl) rfl ?_
      have e79 : (IntKind.u64.wrap ((d77 : Int) * (x : Int))) = ((d77 * x : Nat) : Int) := n_mul' (a := d77) (b := x) (by omega)
      have e80 : (IntKind.u64.wrap ((cy : Int) + ((d77 * x : Nat) : Int))) = ((cy + (d77 * x) : Nat) : Int) := n_add' (a := cy) (b := (d77 * x)) (by omega)
      refine GL.eq (M' := [(0, .int .u64 (x : Int)), (1, .int .i64 (((n - m) : Nat) : Int)), (5, .slice A_ ds.length c_), (6, .slice X_ i d_), (7, .int .u64 ((cy + (d77 * x) : Nat) : Int)), (8, .int .i64 (i : Int))]) (by rw [e79, e80]) ?_
      clear e79 e80
      refine GL.k rfl hK73 (fun _ _ h => h) ?_
      refine G.seqK fun K81 hK82 => ?_
      refine G.region ?_
      refine GL.run (j := 3) 3 [0, 1, 5, 7, 8, 37, 39] [(0, .int .u64 (x : Int)), (1, .int .i64 (((n - m) : Nat) : Int)), (5, .slice A_ ds.length c_), (7, .int .u64 ((cy + (d77 * x) : Nat) : Int)), (8, .int .i64 (i : Int)), (37, .slice X_ i d_), (39, .int .u64 (Int.tmod ((cy + (d77 * x) : Nat) : Int) 65536))] (by kernel_rfl) rfl ?_
      have e83 : (Int.tmod ((cy + (d77 * x) : Nat) : Int) 65536) = (((cy + (d77 * x)) % 65536 : Nat) : Int) := n_rem _ 65536
      refine GL.eq (M' := [(0, .int .u64 (x : Int)), (1, .int .i64 (((n - m) : Nat) : Int)), (5, .slice A_ ds.length c_), (7, .int .u64 ((cy + (d77 * x) : Nat) : Int)), (8, .int .i64 (i : Int)), (37, .slice X_ i d_), (39, .int .u64 (((cy + (d77 * x)) % 65536 : Nat) : Int))]) (by rw [e83]) ?_
      clear e83
      obtain ⟨p84, w85, r86, H87⟩ := H38.madeRow (P := Try.prog) (Instr.buildSlice 34 1 #[(0, .int .u64 (((cy + (d77 * x)) % 65536 : Nat) : Int))]) (fun b_ => .slice (some ⟨b_, 0, none⟩) 1 1) [.int .u64 (((cy + (d77 * x)) % 65536 : Nat) : Int)] 31 1 1 1 (by kernel_rfl) (by decide) (by decide) rfl
      have H87 : Hp w [] [.row A_ ds.length c_ 31 1 (dg ds), .row X_ i d_ 31 1 (dg xs), .row (some ⟨p84, 0, none⟩) 1 1 31 1 (dg [(cy + (d77 * x)) % 65536])] w85 := H87
      refine GL.sem (j := 4) (r86) [0, 1, 5, 7, 8, 37, 40] [(0, .int .u64 (x : Int)), (1, .int .i64 (((n - m) : Nat) : Int)), (5, .slice A_ ds.length c_), (7, .int .u64 ((cy + (d77 * x) : Nat) : Int)), (8, .int .i64 (i : Int)), (37, .slice X_ i d_), (40, .slice (some ⟨p84, 0, none⟩) 1 1)] (by kernel_rfl) (by kernel_rfl) rfl ?_
      obtain ⟨A88, c89, w90, r91, H92⟩ := H87.append (P := Try.prog) (e := 31) (sz := 1) (by_ := 8) (n := i) (c := d_) (m := 1) (d := 1) (t := 34) (ty := 34) (xs := dg xs) (news := dg [(cy + (d77 * x)) % 65536]) 1 rfl (by kernel_rfl) (H87.rdRow 2 rfl) (by simp [dg_length]) (dg_one _) (by omega) (by simp only [maxLen]; omega)
      rw [← dg_append] at H92
      have H92 : Hp w [] [.row A_ ds.length c_ 31 1 (dg ds), .row A88 (i + 1) c89 31 1 (dg (xs ++ [(cy + (d77 * x)) % 65536])), .row (some ⟨p84, 0, none⟩) 1 1 31 1 (dg [(cy + (d77 * x)) % 65536])] w90 := H92
      refine GL.sem (j := 5) (r91) [0, 1, 5, 7, 8, 41] [(0, .int .u64 (x : Int)), (1, .int .i64 (((n - m) : Nat) : Int)), (5, .slice A_ ds.length c_), (7, .int .u64 ((cy + (d77 * x) : Nat) : Int)), (8, .int .i64 (i : Int)), (41, .slice A88 (i + 1) c89)] (by kernel_rfl) (by kernel_rfl) rfl ?_
      refine GL.run (j := 6) 1 [0, 1, 5, 6, 7, 8] [(0, .int .u64 (x : Int)), (1, .int .i64 (((n - m) : Nat) : Int)), (5, .slice A_ ds.length c_), (6, .slice A88 (i + 1) c89), (7, .int .u64 ((cy + (d77 * x) : Nat) : Int)), (8, .int .i64 (i : Int))] (by kernel_rfl) rfl ?_
      refine GL.k rfl hK82 (fun _ _ h => h) ?_
      refine G.region ?_
      refine GL.run (j := 3) 3 [0, 1, 5, 6, 7, 8] [(0, .int .u64 (x : Int)), (1, .int .i64 (((n - m) : Nat) : Int)), (5, .slice A_ ds.length c_), (6, .slice A88 (i + 1) c89), (7, .int .u64 (IntKind.u64.wrap (Int.tdiv ((cy + (d77 * x) : Nat) : Int) 65536))), (8, .int .i64 (i : Int))] (by kernel_rfl) rfl ?_
      have e93 : (IntKind.u64.wrap (Int.tdiv ((cy + (d77 * x) : Nat) : Int) 65536)) = (((cy + (d77 * x)) / 65536 : Nat) : Int) := n_quo 65536 (by omega)
      refine GL.eq (M' := [(0, .int .u64 (x : Int)), (1, .int .i64 (((n - m) : Nat) : Int)), (5, .slice A_ ds.length c_), (6, .slice A88 (i + 1) c89), (7, .int .u64 (((cy + (d77 * x)) / 65536 : Nat) : Int)), (8, .int .i64 (i : Int))]) (by rw [e93]) ?_
      clear e93
      refine GL.k rfl hK71 (fun _ _ h => h) ?_
      refine G.region ?_
      refine GL.run (j := 3) 3 [0, 1, 5, 6, 7, 8] [(0, .int .u64 (x : Int)), (1, .int .i64 (((n - m) : Nat) : Int)), (5, .slice A_ ds.length c_), (6, .slice A88 (i + 1) c89), (7, .int .u64 (((cy + (d77 * x)) / 65536 : Nat) : Int)), (8, .int .i64 (IntKind.i64.wrap ((i : Int) + 1)))] (by kernel_rfl) rfl ?_
      have e94 : (IntKind.i64.wrap ((i : Int) + 1)) = ((i + 1 : Nat) : Int) := by rw [in_i64 (by omega)]; omega
      refine GL.eq (M' := [(0, .int .u64 (x : Int)), (1, .int .i64 (((n - m) : Nat) : Int)), (5, .slice A_ ds.length c_), (6, .slice A88 (i + 1) c89), (7, .int .u64 (((cy + (d77 * x)) / 65536 : Nat) : Int)), (8, .int .i64 ((i + 1 : Nat) : Int))]) (by rw [e94]) ?_
      clear e94
      have H95 : Hp w [] [.row A_ ds.length c_ 31 1 (dg ds), .row A88 (i + 1) c89 31 1 (dg (xs ++ [(cy + (d77 * x)) % 65536]))] w90 := H92.sub (List.Sublist.cons_cons _ (List.Sublist.cons_cons _ (List.Sublist.cons _ (List.Sublist.slnil))))
      refine GL.fit (ts := [0, 1, 5, 6, 7, 8]) (M' := [(0, .int .u64 (x : Int)), (1, .int .i64 (((n - m) : Nat) : Int)), (5, .slice A_ ds.length c_), (6, .slice A88 (i + 1) c89), (7, .int .u64 (((cy + (d77 * x)) / 65536 : Nat) : Int)), (8, .int .i64 ((i + 1 : Nat) : Int))]) (by kernel_rfl) ?_
      refine GL.eq (M' := [(0, .int .u64 (x : Int)), (1, .int .i64 (((n - m) : Nat) : Int)), (5, .slice A_ ds.length c_), (6, .slice A88 (i + 1) c89), (7, .int .u64 (((cy + (d77 * x)) / 65536 : Nat) : Int)), (8, .int .i64 (((i + 1) : Nat) : Int))]) (by rfl) ?_
      exact GL.again ⟨(i + 1), (cy + (d77 * x)) / 65536, (xs ++ [(cy + (d77 * x)) % 65536]), A88, c89⟩ [0, 1, 5, 6, 7, 8] rfl (by kernel_rfl) (by show 16 - (i + 1) < 16 - i; omega) ⟨⟨by rw [List.length_append, hxl]; rfl, ok_snoc hxok (Nat.mod_lt _ (by decide)), hpc.2, by omega, pw_round hxl hxv ((by rw [List.getD_eq_getElem?_getD, hd78]; rfl)) (rfl)⟩, H95⟩
theorem Root2_calls (p : Nat) (hp : p < 65536) (w : World) : Calls Try.prog 59 #[.int .u64 (p : Int), .int .i64 2] w fun e w' => e = .returned (.int .u32 ((rootS p 2 36 % W32 : Nat) : Int)) ∧ Hp w [] [] w' := by
  have hMX : MX = 4611686018427387904 := rfl
  have hK0 : K = 18446744073709551616 := rfl
  have hK40 : K4 = 115792089237316195423570985008687907853269984665640564039457584007913129639936 := rfl
  refine calls_G (args := [.int .u64 (p : Int), .int .i64 2]) Try.func59 rfl Try.ntmps59 rfl ?_
  intro Q0 hRet hNor hPan
  have H := Hp.start w
  have H : Hp w [] [] w := H
  refine G.seqK fun K1 hK2 => ?_
  refine G.region ?_
  refine GL.run (j := 1) 1 [0, 1] [(0, .int .u64 (p : Int)), (1, .int .i64 2)] (by kernel_rfl) rfl ?_
  refine GL.k rfl hK2 (fun _ _ h => h) ?_
  refine G.seqK fun K3 hK4 => ?_
  refine G.region ?_
  refine GL.run (j := 2) 2 [0, 1, 12] [(0, .int .u64 (p : Int)), (1, .int .i64 2), (12, .int .i64 4)] (by kernel_rfl) rfl ?_
  obtain ⟨p5, w6, r7, H8⟩ := H.makeD (P := Try.prog) (t := 34) (e := 31) (n := 4) (kl := .i64) (kc := .i64) (by kernel_rfl) (by omega)
  have H8 : Hp w [] [.row (some ⟨p5, 0, none⟩) 4 4 31 1 (dg (List.replicate 4 0))] w6 := H8
  refine GL.sem (j := 3) (r7) [0, 1, 13] [(0, .int .u64 (p : Int)), (1, .int .i64 2), (13, .slice (some ⟨p5, 0, none⟩) 4 4)] (by kernel_rfl) (by kernel_rfl) rfl ?_
  refine GL.run (j := 4) 1 [1, 13, 14] [(1, .int .i64 2), (13, .slice (some ⟨p5, 0, none⟩) 4 4), (14, .int .u64 (p : Int))] (by kernel_rfl) rfl ?_
  obtain ⟨p9, w10, r11, H12⟩ := H8.madeRow (P := Try.prog) (Instr.buildSlice 34 1 #[(0, .int .u64 (p : Int))]) (fun b_ => .slice (some ⟨b_, 0, none⟩) 1 1) [.int .u64 (p : Int)] 31 1 1 1 (by kernel_rfl) (by decide) (by decide) rfl
  have H12 : Hp w [] [.row (some ⟨p5, 0, none⟩) 4 4 31 1 (dg (List.replicate 4 0)), .row (some ⟨p9, 0, none⟩) 1 1 31 1 (dg [p])] w10 := H12
  refine GL.sem (j := 5) (r11) [1, 13, 15] [(1, .int .i64 2), (13, .slice (some ⟨p5, 0, none⟩) 4 4), (15, .slice (some ⟨p9, 0, none⟩) 1 1)] (by kernel_rfl) (by kernel_rfl) rfl ?_
  obtain ⟨A13, c14, w15, r16, H17⟩ := H12.append (P := Try.prog) (e := 31) (sz := 1) (by_ := 8) (n := 4) (c := 4) (m := 1) (d := 1) (t := 34) (ty := 34) (xs := dg (List.replicate 4 0)) (news := dg [p]) 0 rfl (by kernel_rfl) (H12.rdRow 1 rfl) (by simp [dg_length]) (dg_one _) (by omega) (by simp only [maxLen]; omega)
  rw [← dg_append] at H17
  have H17 : Hp w [] [.row A13 (4 + 1) c14 31 1 (dg ((List.replicate 4 0) ++ [p])), .row (some ⟨p9, 0, none⟩) 1 1 31 1 (dg [p])] w15 := H17
  refine GL.sem (j := 6) (r16) [1, 16] [(1, .int .i64 2), (16, .slice A13 (4 + 1) c14)] (by kernel_rfl) (by kernel_rfl) rfl ?_
  refine GL.run (j := 7) 1 [1, 5] [(1, .int .i64 2), (5, .slice A13 (4 + 1) c14)] (by kernel_rfl) rfl ?_
  refine GL.k rfl hK4 (fun _ _ h => h) ?_
  refine G.seqK fun K18 hK19 => ?_
  refine G.region ?_
  refine GL.run (j := 1) 1 [1, 5, 6] [(1, .int .i64 2), (5, .slice A13 (4 + 1) c14), (6, .int .u64 0)] (by kernel_rfl) rfl ?_
  refine GL.k rfl hK19 (fun _ _ h => h) ?_
  refine G.seqK fun K20 hK21 => ?_
  refine G.seqK fun K22 hK23 => ?_
  refine G.region ?_
  refine GL.run (j := 1) 1 [1, 5, 6, 7] [(1, .int .i64 2), (5, .slice A13 (4 + 1) c14), (6, .int .u64 0), (7, .int .i64 35)] (by kernel_rfl) rfl ?_
  refine GL.k rfl hK23 (fun _ _ h => h) ?_
  refine G.block ?_
  have hWok : ok16 ((List.replicate 4 0) ++ [p]) := fun d hd => (List.mem_append.1 hd).elim (fun hd => by rw [(List.mem_replicate.1 hd).2]; decide) (fun hd => by rw [List.mem_singleton.1 hd]; exact hp)
  have hWl : ((List.replicate 4 0) ++ [p]).length = 5 := by rw [List.length_append, List.length_replicate]; rfl
  have hWv : val ((List.replicate 4 0) ++ [p]) = p * 65536 ^ (2 * 2) := by rw [val_append, val_zeros, List.length_replicate, Nat.zero_add, Nat.mul_comm]; show (p + 65536 * 0) * _ = _; rw [Nat.mul_zero, Nat.add_zero]
  refine G.fit [1, 5, 6, 7] (M' := [(1, .int .i64 2), (5, .slice A13 (4 + 1) c14), (6, .int .u64 0), (7, .int .i64 35)]) (by kernel_rfl) ?_
  refine G.eq (M' := [(1, .int .i64 2), (5, .slice A13 (4 + 1) c14), (6, .int .u64 0), (7, .int .i64 (35 - ((0 : Nat) : Int)))]) (by rfl) ?_
  refine G.loop (X := Nat × Nat) (fun ⟨j, x⟩ => [(1, .int .i64 2), (5, .slice A13 (4 + 1) c14), (6, .int .u64 (x : Int)), (7, .int .i64 (35 - (j : Int)))]) (fun ⟨j, x⟩ w_ => (j ≤ 36 ∧ x = rootS p 2 j) ∧ Hp w [] [.row A13 (4 + 1) c14 31 1 (dg ((List.replicate 4 0) ++ [p])), .row (some ⟨p9, 0, none⟩) 1 1 31 1 (dg [p])] w_) (fun ⟨j, x⟩ => 36 - j) ⟨0, 0⟩ [1, 5, 6, 7] (by kernel_rfl) ⟨⟨by omega, rfl⟩, H17⟩ ?_
  rintro ⟨j, x⟩ w24 ⟨hi25, H26⟩
  refine G.eq (M' := [(1, .int .i64 2), (5, .slice A13 (4 + 1) c14), (6, .int .u64 (x : Int)), (7, .int .i64 (35 - (j : Int)))]) rfl ?_
  have H26 : Hp w [] [.row A13 (4 + 1) c14 31 1 (dg ((List.replicate 4 0) ++ [p])), .row (some ⟨p9, 0, none⟩) 1 1 31 1 (dg [p])] w24 := H26
  obtain ⟨hj36, hxj⟩ := hi25
  refine G.seqK fun K27 hK28 => ?_
  refine G.seqK fun K29 hK30 => ?_
  refine G.region ?_
  refine GL.run (j := 2) 2 [1, 5, 6, 7, 18] [(1, .int .i64 2), (5, .slice A13 (4 + 1) c14), (6, .int .u64 (x : Int)), (7, .int .i64 (35 - (j : Int))), (18, .bool (decide (0 ≤ (35 - (j : Int)))))] (by kernel_rfl) rfl ?_
  refine GL.k rfl hK30 (fun _ _ h => h) ?_
  cases hb31 : (decide (0 ≤ (35 - (j : Int))))
  · skip
    have hb31f := of_decide_eq_false hb31
    refine G.no rfl ?_
    refine G.exitK hK21 (fun _ _ h => h) ?_
    refine G.seqK fun K32 hK33 => ?_
    refine G.region ?_
    refine GL.run (j := 3) 3 [4] [(4, .int .u32 (IntKind.u32.wrap (x : Int)))] (by kernel_rfl) rfl ?_
    have e34 : (IntKind.u32.wrap (x : Int)) = (((x % W32) : Nat) : Int) := w_u32 _
    refine GL.eq (M' := [(4, .int .u32 (((x % W32) : Nat) : Int))]) (by rw [e34]) ?_
    clear e34
    refine GL.k rfl hK33 (fun _ _ h => h) ?_
    refine G.ret ?_
    intro F_ hF_ hM_
    refine hRet _ _ (bodyPost_1 rfl (RV.tmp rfl) ?_ F_ hF_ hM_)
    rw [show rootS p 2 36 = x by rw [hxj, show j = 36 by omega]]
    exact ⟨rfl, H26.sub (List.nil_sublist _)⟩
  · skip
    have hb31f := of_decide_eq_true hb31
    have ei : (35 - (j : Int)) = ((35 - j : Nat) : Int) := by omega
    refine G.eq (M' := [(1, .int .i64 2), (5, .slice A13 (4 + 1) c14), (6, .int .u64 (x : Int)), (7, .int .i64 (((35 - j) : Nat) : Int)), (18, .bool true)]) (by rw [ei]) ?_
    have hroom : x + 2 ^ (35 - j) < 68719476736 := by rw [hxj]; exact rootS_room (by omega)
    have h2p : 2 ^ (35 - j) ≤ 68719476736 := by omega
    refine G.yes rfl ?_
    refine G.skipK hK28 (fun _ _ h => h) ?_
    refine G.seqK fun K35 hK36 => ?_
    refine G.block ?_
    refine G.seqK fun K37 hK38 => ?_
    refine G.region ?_
    refine GL.run (j := 2) 2 [1, 5, 6, 7, 21, 22] [(1, .int .i64 2), (5, .slice A13 (4 + 1) c14), (6, .int .u64 (x : Int)), (7, .int .i64 (((35 - j) : Nat) : Int)), (21, .int .u64 (x : Int)), (22, .int .i64 (((35 - j) : Nat) : Int))] (by kernel_rfl) rfl ?_
    refine GL.sem (j := 3) (run_shl1 (P := Try.prog) (k' := .i64) (t := 31) (r := (35 - j)) (by omega) _) [1, 5, 6, 7, 21, 23] [(1, .int .i64 2), (5, .slice A13 (4 + 1) c14), (6, .int .u64 (x : Int)), (7, .int .i64 (((35 - j) : Nat) : Int)), (21, .int .u64 (x : Int)), (23, .int .u64 (((2 ^ (35 - j)) : Nat) : Int))] (by kernel_rfl) (by kernel_rfl) rfl ?_
    refine GL.run (j := 5) 2 [1, 5, 6, 7, 24, 25] [(1, .int .i64 2), (5, .slice A13 (4 + 1) c14), (6, .int .u64 (x : Int)), (7, .int .i64 (((35 - j) : Nat) : Int)), (24, .int .u64 (IntKind.u64.wrap ((x : Int) + (((2 ^ (35 - j)) : Nat) : Int)))), (25, .int .i64 2)] (by kernel_rfl) rfl ?_
    have e39 : (IntKind.u64.wrap ((x : Int) + (((2 ^ (35 - j)) : Nat) : Int))) = ((x + 2 ^ (35 - j) : Nat) : Int) := n_add' (a := x) (b := 2 ^ (35 - j)) (by omega)
    refine GL.eq (M' := [(1, .int .i64 2), (5, .slice A13 (4 + 1) c14), (6, .int .u64 (x : Int)), (7, .int .i64 (((35 - j) : Nat) : Int)), (24, .int .u64 ((x + 2 ^ (35 - j) : Nat) : Int)), (25, .int .i64 2)]) (by rw [e39]) ?_
    clear e39
    refine GL.call (j := 6) (Power_calls (x + 2 ^ (35 - j)) 2 (by omega) (by omega) w24) (by kernel_rfl) rfl (fun e_ w44 hR => ?_)
    obtain ⟨ds, A40, c41, rfl, H43, hdok, hdl, hdv⟩ := hR
    have H42 : Hp w [] [.row A13 (4 + 1) c14 31 1 (dg ((List.replicate 4 0) ++ [p])), .row (some ⟨p9, 0, none⟩) 1 1 31 1 (dg [p]), .row A40 ds.length c41 31 1 (dg ds)] w44 := H26.callNew H43
    refine ⟨_, rfl, [1, 5, 6, 7, 26], [(1, .int .i64 2), (5, .slice A13 (4 + 1) c14), (6, .int .u64 (x : Int)), (7, .int .i64 (((35 - j) : Nat) : Int)), (26, .slice A40 ds.length c41)], by kernel_rfl, ?_⟩
    refine GL.run (j := 7) 1 [1, 5, 6, 7, 8] [(1, .int .i64 2), (5, .slice A13 (4 + 1) c14), (6, .int .u64 (x : Int)), (7, .int .i64 (((35 - j) : Nat) : Int)), (8, .slice A40 ds.length c41)] (by kernel_rfl) rfl ?_
    refine GL.k rfl hK38 (fun _ _ h => h) ?_
    refine G.seqK fun K45 hK46 => ?_
    refine G.region ?_
    refine GL.run (j := 1) 1 [1, 5, 6, 7, 8, 9] [(1, .int .i64 2), (5, .slice A13 (4 + 1) c14), (6, .int .u64 (x : Int)), (7, .int .i64 (((35 - j) : Nat) : Int)), (8, .slice A40 ds.length c41), (9, .bool false)] (by kernel_rfl) rfl ?_
    refine GL.k rfl hK46 (fun _ _ h => h) ?_
    refine G.seqK fun K47 hK48 => ?_
    refine G.seqK fun K49 hK50 => ?_
    refine G.region ?_
    refine GL.run (j := 1) 1 [1, 5, 6, 7, 8, 9, 10] [(1, .int .i64 2), (5, .slice A13 (4 + 1) c14), (6, .int .u64 (x : Int)), (7, .int .i64 (((35 - j) : Nat) : Int)), (8, .slice A40 ds.length c41), (9, .bool false), (10, .int .i64 0)] (by kernel_rfl) rfl ?_
    refine GL.k rfl hK50 (fun _ _ h => h) ?_
    refine G.block ?_
    refine G.fit [1, 5, 6, 7, 8, 9, 10] (M' := [(1, .int .i64 2), (5, .slice A13 (4 + 1) c14), (6, .int .u64 (x : Int)), (7, .int .i64 (((35 - j) : Nat) : Int)), (8, .slice A40 ds.length c41), (9, .bool false), (10, .int .i64 0)]) (by kernel_rfl) ?_
    refine G.loop (X := Nat × Bool) (fun ⟨i, o⟩ => [(1, .int .i64 2), (5, .slice A13 (4 + 1) c14), (6, .int .u64 (x : Int)), (7, .int .i64 (((35 - j) : Nat) : Int)), (8, .slice A40 ds.length c41), (9, .bool o), (10, .int .i64 (i : Int))]) (fun ⟨i, o⟩ w_ => (i ≤ 16 ∧ o = decide (val (((List.replicate 4 0) ++ [p]).take i) < val (ds.take i))) ∧ Hp w [] [.row A13 (4 + 1) c14 31 1 (dg ((List.replicate 4 0) ++ [p])), .row (some ⟨p9, 0, none⟩) 1 1 31 1 (dg [p]), .row A40 ds.length c41 31 1 (dg ds)] w_) (fun ⟨i, o⟩ => 16 - i) ⟨0, false⟩ [1, 5, 6, 7, 8, 9, 10] (by kernel_rfl) ⟨⟨by omega, by rw [List.take_zero, List.take_zero]; exact (decide_eq_false (Nat.lt_irrefl _)).symm⟩, H42⟩ ?_
    rintro ⟨i, o⟩ w51 ⟨hi52, H53⟩
    refine G.eq (M' := [(1, .int .i64 2), (5, .slice A13 (4 + 1) c14), (6, .int .u64 (x : Int)), (7, .int .i64 (((35 - j) : Nat) : Int)), (8, .slice A40 ds.length c41), (9, .bool o), (10, .int .i64 (i : Int))]) rfl ?_
    have H53 : Hp w [] [.row A13 (4 + 1) c14 31 1 (dg ((List.replicate 4 0) ++ [p])), .row (some ⟨p9, 0, none⟩) 1 1 31 1 (dg [p]), .row A40 ds.length c41 31 1 (dg ds)] w51 := H53
    obtain ⟨hi16, hov⟩ := hi52
    refine G.seqK fun K54 hK55 => ?_
    refine G.seqK fun K56 hK57 => ?_
    refine G.region ?_
    refine GL.run (j := 2) 2 [1, 5, 6, 7, 8, 9, 10, 28] [(1, .int .i64 2), (5, .slice A13 (4 + 1) c14), (6, .int .u64 (x : Int)), (7, .int .i64 (((35 - j) : Nat) : Int)), (8, .slice A40 ds.length c41), (9, .bool o), (10, .int .i64 (i : Int)), (28, .bool (decide ((i : Int) < 16)))] (by kernel_rfl) rfl ?_
    refine GL.k rfl hK57 (fun _ _ h => h) ?_
    cases hb58 : (decide ((i : Int) < 16))
    · skip
      have hb58f := of_decide_eq_false hb58
      refine G.no rfl ?_
      refine G.exitK hK48 (fun _ _ h => h) ?_
      refine G.seqK fun K59 hK60 => ?_
      refine G.region ?_
      refine GL.run (j := 2) 2 [1, 5, 6, 7, 46] [(1, .int .i64 2), (5, .slice A13 (4 + 1) c14), (6, .int .u64 (x : Int)), (7, .int .i64 (((35 - j) : Nat) : Int)), (46, .bool (!o))] (by kernel_rfl) rfl ?_
      refine GL.k rfl hK60 (fun _ _ h => h) ?_
      rcases (Bool.eq_false_or_eq_true o).symm with hb61 | hb61
      · skip
        refine G.eq (M' := [(1, .int .i64 2), (5, .slice A13 (4 + 1) c14), (6, .int .u64 (x : Int)), (7, .int .i64 (((35 - j) : Nat) : Int)), (46, .bool true)]) (by first | (rw [hb61]; done) | (rw [hb61]; rfl)) ?_
        refine G.yes rfl ?_
        refine G.region ?_
        refine GL.run (j := 2) 2 [1, 5, 7, 47, 48] [(1, .int .i64 2), (5, .slice A13 (4 + 1) c14), (7, .int .i64 (((35 - j) : Nat) : Int)), (47, .int .u64 (x : Int)), (48, .int .i64 (((35 - j) : Nat) : Int))] (by kernel_rfl) rfl ?_
        refine GL.sem (j := 3) (run_shl1 (P := Try.prog) (k' := .i64) (t := 31) (r := (35 - j)) (by omega) _) [1, 5, 7, 47, 49] [(1, .int .i64 2), (5, .slice A13 (4 + 1) c14), (7, .int .i64 (((35 - j) : Nat) : Int)), (47, .int .u64 (x : Int)), (49, .int .u64 (((2 ^ (35 - j)) : Nat) : Int))] (by kernel_rfl) (by kernel_rfl) rfl ?_
        refine GL.run (j := 5) 2 [1, 5, 6, 7] [(1, .int .i64 2), (5, .slice A13 (4 + 1) c14), (6, .int .u64 (IntKind.u64.wrap ((x : Int) + (((2 ^ (35 - j)) : Nat) : Int)))), (7, .int .i64 (((35 - j) : Nat) : Int))] (by kernel_rfl) rfl ?_
        have e62 : (IntKind.u64.wrap ((x : Int) + (((2 ^ (35 - j)) : Nat) : Int))) = ((x + 2 ^ (35 - j) : Nat) : Int) := n_add' (a := x) (b := 2 ^ (35 - j)) (by omega)
        refine GL.eq (M' := [(1, .int .i64 2), (5, .slice A13 (4 + 1) c14), (6, .int .u64 ((x + 2 ^ (35 - j) : Nat) : Int)), (7, .int .i64 (((35 - j) : Nat) : Int))]) (by rw [e62]) ?_
        clear e62
        refine GL.k rfl hK36 (fun _ _ h => h) ?_
        refine G.region ?_
        refine GL.run (j := 3) 3 [1, 5, 6, 7] [(1, .int .i64 2), (5, .slice A13 (4 + 1) c14), (6, .int .u64 ((x + 2 ^ (35 - j) : Nat) : Int)), (7, .int .i64 (IntKind.i64.wrap ((((35 - j) : Nat) : Int) - 1)))] (by kernel_rfl) rfl ?_
        have e63 : (IntKind.i64.wrap ((((35 - j) : Nat) : Int) - 1)) = (34 - (j : Int)) := by rw [in_i64 (by omega)]; omega
        refine GL.eq (M' := [(1, .int .i64 2), (5, .slice A13 (4 + 1) c14), (6, .int .u64 ((x + 2 ^ (35 - j) : Nat) : Int)), (7, .int .i64 (34 - (j : Int)))]) (by rw [e63]) ?_
        clear e63
        have H64 : Hp w [] [.row A13 (4 + 1) c14 31 1 (dg ((List.replicate 4 0) ++ [p])), .row (some ⟨p9, 0, none⟩) 1 1 31 1 (dg [p])] w51 := H53.sub (List.Sublist.cons_cons _ (List.Sublist.cons_cons _ (List.Sublist.cons _ (List.Sublist.slnil))))
        have hcmp : o = decide (p * 65536 ^ (2 * 2) < (x + 2 ^ (35 - j)) ^ 2) := by rw [hov, show i = 16 by omega, List.take_of_length_le (by omega), List.take_of_length_le (by omega), hWv, hdv]
        have hroot : rootS p 2 (j + 1) = (x + 2 ^ (35 - j)) := by rw [rootS, ← hxj, if_pos (by have := of_decide_eq_false (hcmp.symm.trans hb61); omega)]
        refine GL.fit (ts := [1, 5, 6, 7]) (M' := [(1, .int .i64 2), (5, .slice A13 (4 + 1) c14), (6, .int .u64 ((x + 2 ^ (35 - j) : Nat) : Int)), (7, .int .i64 (34 - (j : Int)))]) (by kernel_rfl) ?_
        refine GL.eq (M' := [(1, .int .i64 2), (5, .slice A13 (4 + 1) c14), (6, .int .u64 (((x + 2 ^ (35 - j)) : Nat) : Int)), (7, .int .i64 (35 - (((j + 1) : Nat) : Int)))]) (by rw [show (34 - (j : Int)) = 35 - ((j + 1 : Nat) : Int) by omega]) ?_
        exact GL.again ⟨(j + 1), (x + 2 ^ (35 - j))⟩ [1, 5, 6, 7] rfl (by kernel_rfl) (by show 36 - (j + 1) < 36 - j; omega) ⟨⟨by omega, hroot.symm⟩, H64⟩
      · skip
        refine G.eq (M' := [(1, .int .i64 2), (5, .slice A13 (4 + 1) c14), (6, .int .u64 (x : Int)), (7, .int .i64 (((35 - j) : Nat) : Int)), (46, .bool false)]) (by first | (rw [hb61]; done) | (rw [hb61]; rfl)) ?_
        refine G.no rfl ?_
        refine G.skipK hK36 (fun _ _ h => h) ?_
        refine G.region ?_
        refine GL.run (j := 3) 3 [1, 5, 6, 7] [(1, .int .i64 2), (5, .slice A13 (4 + 1) c14), (6, .int .u64 (x : Int)), (7, .int .i64 (IntKind.i64.wrap ((((35 - j) : Nat) : Int) - 1)))] (by kernel_rfl) rfl ?_
        have e65 : (IntKind.i64.wrap ((((35 - j) : Nat) : Int) - 1)) = (34 - (j : Int)) := by rw [in_i64 (by omega)]; omega
        refine GL.eq (M' := [(1, .int .i64 2), (5, .slice A13 (4 + 1) c14), (6, .int .u64 (x : Int)), (7, .int .i64 (34 - (j : Int)))]) (by rw [e65]) ?_
        clear e65
        have H66 : Hp w [] [.row A13 (4 + 1) c14 31 1 (dg ((List.replicate 4 0) ++ [p])), .row (some ⟨p9, 0, none⟩) 1 1 31 1 (dg [p])] w51 := H53.sub (List.Sublist.cons_cons _ (List.Sublist.cons_cons _ (List.Sublist.cons _ (List.Sublist.slnil))))
        have hcmp : o = decide (p * 65536 ^ (2 * 2) < (x + 2 ^ (35 - j)) ^ 2) := by rw [hov, show i = 16 by omega, List.take_of_length_le (by omega), List.take_of_length_le (by omega), hWv, hdv]
        have hroot : rootS p 2 (j + 1) = x := by rw [rootS, ← hxj, if_neg (by have := of_decide_eq_true (hcmp.symm.trans hb61); omega)]
        refine GL.fit (ts := [1, 5, 6, 7]) (M' := [(1, .int .i64 2), (5, .slice A13 (4 + 1) c14), (6, .int .u64 (x : Int)), (7, .int .i64 (34 - (j : Int)))]) (by kernel_rfl) ?_
        refine GL.eq (M' := [(1, .int .i64 2), (5, .slice A13 (4 + 1) c14), (6, .int .u64 (x : Int)), (7, .int .i64 (35 - (((j + 1) : Nat) : Int)))]) (by rw [show (34 - (j : Int)) = 35 - ((j + 1 : Nat) : Int) by omega]) ?_
        exact GL.again ⟨(j + 1), x⟩ [1, 5, 6, 7] rfl (by kernel_rfl) (by show 36 - (j + 1) < 36 - j; omega) ⟨⟨by omega, hroot.symm⟩, H66⟩
    · skip
      have hb58f := of_decide_eq_true hb58
      refine G.yes rfl ?_
      refine G.skipK hK55 (fun _ _ h => h) ?_
      refine G.seqK fun K67 hK68 => ?_
      refine G.block ?_
      refine G.seqK fun K69 hK70 => ?_
      refine G.region ?_
      refine GL.run (j := 2) 2 [1, 5, 6, 7, 8, 9, 10, 31, 32] [(1, .int .i64 2), (5, .slice A13 (4 + 1) c14), (6, .int .u64 (x : Int)), (7, .int .i64 (((35 - j) : Nat) : Int)), (8, .slice A40 ds.length c41), (9, .bool o), (10, .int .i64 (i : Int)), (31, .slice A40 ds.length c41), (32, .int .i64 (i : Int))] (by kernel_rfl) rfl ?_
      refine GL.call (j := 3) (Digit_calls ds i ds.length A40 c41 w51 (H53.rdRow 2 rfl) (rfl)) (by kernel_rfl) rfl (fun e_ w71 hR => ?_)
      obtain ⟨rfl, H73⟩ := hR
      have H72 : Hp w [] [.row A13 (4 + 1) c14 31 1 (dg ((List.replicate 4 0) ++ [p])), .row (some ⟨p9, 0, none⟩) 1 1 31 1 (dg [p]), .row A40 ds.length c41 31 1 (dg ds)] w71 := H53.callNil H73
      refine ⟨_, rfl, [1, 5, 6, 7, 8, 9, 10, 33], [(1, .int .i64 2), (5, .slice A13 (4 + 1) c14), (6, .int .u64 (x : Int)), (7, .int .i64 (((35 - j) : Nat) : Int)), (8, .slice A40 ds.length c41), (9, .bool o), (10, .int .i64 (i : Int)), (33, .int .u64 (((ds.getD i 0) : Nat) : Int))], by kernel_rfl, ?_⟩
      refine GL.run (j := 5) 2 [1, 5, 6, 7, 8, 9, 10, 33, 34, 35] [(1, .int .i64 2), (5, .slice A13 (4 + 1) c14), (6, .int .u64 (x : Int)), (7, .int .i64 (((35 - j) : Nat) : Int)), (8, .slice A40 ds.length c41), (9, .bool o), (10, .int .i64 (i : Int)), (33, .int .u64 (((ds.getD i 0) : Nat) : Int)), (34, .slice A13 (4 + 1) c14), (35, .int .i64 (i : Int))] (by kernel_rfl) rfl ?_
      refine GL.call (j := 6) (Digit_calls ((List.replicate 4 0) ++ [p]) i (4 + 1) A13 c14 w71 (H72.rdRow 0 rfl) (by omega)) (by kernel_rfl) rfl (fun e_ w74 hR => ?_)
      obtain ⟨rfl, H76⟩ := hR
      have H75 : Hp w [] [.row A13 (4 + 1) c14 31 1 (dg ((List.replicate 4 0) ++ [p])), .row (some ⟨p9, 0, none⟩) 1 1 31 1 (dg [p]), .row A40 ds.length c41 31 1 (dg ds)] w74 := H72.callNil H76
      refine ⟨_, rfl, [1, 5, 6, 7, 8, 9, 10, 33, 36], [(1, .int .i64 2), (5, .slice A13 (4 + 1) c14), (6, .int .u64 (x : Int)), (7, .int .i64 (((35 - j) : Nat) : Int)), (8, .slice A40 ds.length c41), (9, .bool o), (10, .int .i64 (i : Int)), (33, .int .u64 (((ds.getD i 0) : Nat) : Int)), (36, .int .u64 (((((List.replicate 4 0) ++ [p]).getD i 0) : Nat) : Int))], by kernel_rfl, ?_⟩
      refine GL.run (j := 7) 1 [1, 5, 6, 7, 8, 9, 10, 37] [(1, .int .i64 2), (5, .slice A13 (4 + 1) c14), (6, .int .u64 (x : Int)), (7, .int .i64 (((35 - j) : Nat) : Int)), (8, .slice A40 ds.length c41), (9, .bool o), (10, .int .i64 (i : Int)), (37, .bool ((((ds.getD i 0) : Nat) : Int) != (((((List.replicate 4 0) ++ [p]).getD i 0) : Nat) : Int)))] (by kernel_rfl) rfl ?_
      refine GL.k rfl hK70 (fun _ _ h => h) ?_
      cases hb77 : ((((ds.getD i 0) : Nat) : Int) != (((((List.replicate 4 0) ++ [p]).getD i 0) : Nat) : Int))
      · skip
        have hb77f : (((ds.getD i 0) : Nat) : Int) = (((((List.replicate 4 0) ++ [p]).getD i 0) : Nat) : Int) := bne_eq_false_iff_eq.1 hb77
        refine G.no rfl ?_
        refine G.skipK hK68 (fun _ _ h => h) ?_
        refine G.region ?_
        refine GL.run (j := 3) 3 [1, 5, 6, 7, 8, 9, 10] [(1, .int .i64 2), (5, .slice A13 (4 + 1) c14), (6, .int .u64 (x : Int)), (7, .int .i64 (((35 - j) : Nat) : Int)), (8, .slice A40 ds.length c41), (9, .bool o), (10, .int .i64 (IntKind.i64.wrap ((i : Int) + 1)))] (by kernel_rfl) rfl ?_
        have e78 : (IntKind.i64.wrap ((i : Int) + 1)) = ((i + 1 : Nat) : Int) := by rw [in_i64 (by omega)]; omega
        refine GL.eq (M' := [(1, .int .i64 2), (5, .slice A13 (4 + 1) c14), (6, .int .u64 (x : Int)), (7, .int .i64 (((35 - j) : Nat) : Int)), (8, .slice A40 ds.length c41), (9, .bool o), (10, .int .i64 ((i + 1 : Nat) : Int))]) (by rw [e78]) ?_
        clear e78
        refine GL.fit (ts := [1, 5, 6, 7, 8, 9, 10]) (M' := [(1, .int .i64 2), (5, .slice A13 (4 + 1) c14), (6, .int .u64 (x : Int)), (7, .int .i64 (((35 - j) : Nat) : Int)), (8, .slice A40 ds.length c41), (9, .bool o), (10, .int .i64 ((i + 1 : Nat) : Int))]) (by kernel_rfl) ?_
        refine GL.eq (M' := [(1, .int .i64 2), (5, .slice A13 (4 + 1) c14), (6, .int .u64 (x : Int)), (7, .int .i64 (((35 - j) : Nat) : Int)), (8, .slice A40 ds.length c41), (9, .bool o), (10, .int .i64 (((i + 1) : Nat) : Int))]) (by rfl) ?_
        exact GL.again ⟨(i + 1), o⟩ [1, 5, 6, 7, 8, 9, 10] rfl (by kernel_rfl) (by show 16 - (i + 1) < 16 - i; omega) ⟨⟨by omega, by rw [(cmp_step (i := i) hdok hWok).2 (by omega), hov]⟩, H75⟩
      · skip
        have hb77f : (((ds.getD i 0) : Nat) : Int) ≠ (((((List.replicate 4 0) ++ [p]).getD i 0) : Nat) : Int) := bne_iff_ne.1 hb77
        refine G.yes rfl ?_
        refine G.region ?_
        refine GL.run (j := 2) 2 [1, 5, 6, 7, 8, 10, 38, 39] [(1, .int .i64 2), (5, .slice A13 (4 + 1) c14), (6, .int .u64 (x : Int)), (7, .int .i64 (((35 - j) : Nat) : Int)), (8, .slice A40 ds.length c41), (10, .int .i64 (i : Int)), (38, .slice A40 ds.length c41), (39, .int .i64 (i : Int))] (by kernel_rfl) rfl ?_
        refine GL.call (j := 3) (Digit_calls ds i ds.length A40 c41 w74 (H75.rdRow 2 rfl) (rfl)) (by kernel_rfl) rfl (fun e_ w79 hR => ?_)
        obtain ⟨rfl, H81⟩ := hR
        have H80 : Hp w [] [.row A13 (4 + 1) c14 31 1 (dg ((List.replicate 4 0) ++ [p])), .row (some ⟨p9, 0, none⟩) 1 1 31 1 (dg [p]), .row A40 ds.length c41 31 1 (dg ds)] w79 := H75.callNil H81
        refine ⟨_, rfl, [1, 5, 6, 7, 8, 10, 40], [(1, .int .i64 2), (5, .slice A13 (4 + 1) c14), (6, .int .u64 (x : Int)), (7, .int .i64 (((35 - j) : Nat) : Int)), (8, .slice A40 ds.length c41), (10, .int .i64 (i : Int)), (40, .int .u64 (((ds.getD i 0) : Nat) : Int))], by kernel_rfl, ?_⟩
        refine GL.run (j := 5) 2 [1, 5, 6, 7, 8, 10, 40, 41, 42] [(1, .int .i64 2), (5, .slice A13 (4 + 1) c14), (6, .int .u64 (x : Int)), (7, .int .i64 (((35 - j) : Nat) : Int)), (8, .slice A40 ds.length c41), (10, .int .i64 (i : Int)), (40, .int .u64 (((ds.getD i 0) : Nat) : Int)), (41, .slice A13 (4 + 1) c14), (42, .int .i64 (i : Int))] (by kernel_rfl) rfl ?_
        refine GL.call (j := 6) (Digit_calls ((List.replicate 4 0) ++ [p]) i (4 + 1) A13 c14 w79 (H80.rdRow 0 rfl) (by omega)) (by kernel_rfl) rfl (fun e_ w82 hR => ?_)
        obtain ⟨rfl, H84⟩ := hR
        have H83 : Hp w [] [.row A13 (4 + 1) c14 31 1 (dg ((List.replicate 4 0) ++ [p])), .row (some ⟨p9, 0, none⟩) 1 1 31 1 (dg [p]), .row A40 ds.length c41 31 1 (dg ds)] w82 := H80.callNil H84
        refine ⟨_, rfl, [1, 5, 6, 7, 8, 10, 40, 43], [(1, .int .i64 2), (5, .slice A13 (4 + 1) c14), (6, .int .u64 (x : Int)), (7, .int .i64 (((35 - j) : Nat) : Int)), (8, .slice A40 ds.length c41), (10, .int .i64 (i : Int)), (40, .int .u64 (((ds.getD i 0) : Nat) : Int)), (43, .int .u64 (((((List.replicate 4 0) ++ [p]).getD i 0) : Nat) : Int))], by kernel_rfl, ?_⟩
        refine GL.run (j := 8) 2 [1, 5, 6, 7, 8, 9, 10] [(1, .int .i64 2), (5, .slice A13 (4 + 1) c14), (6, .int .u64 (x : Int)), (7, .int .i64 (((35 - j) : Nat) : Int)), (8, .slice A40 ds.length c41), (9, .bool (decide ((((((List.replicate 4 0) ++ [p]).getD i 0) : Nat) : Int) < (((ds.getD i 0) : Nat) : Int)))), (10, .int .i64 (i : Int))] (by kernel_rfl) rfl ?_
        refine GL.k rfl hK68 (fun _ _ h => h) ?_
        refine G.region ?_
        refine GL.run (j := 3) 3 [1, 5, 6, 7, 8, 9, 10] [(1, .int .i64 2), (5, .slice A13 (4 + 1) c14), (6, .int .u64 (x : Int)), (7, .int .i64 (((35 - j) : Nat) : Int)), (8, .slice A40 ds.length c41), (9, .bool (decide ((((((List.replicate 4 0) ++ [p]).getD i 0) : Nat) : Int) < (((ds.getD i 0) : Nat) : Int)))), (10, .int .i64 (IntKind.i64.wrap ((i : Int) + 1)))] (by kernel_rfl) rfl ?_
        have e85 : (IntKind.i64.wrap ((i : Int) + 1)) = ((i + 1 : Nat) : Int) := by rw [in_i64 (by omega)]; omega
        refine GL.eq (M' := [(1, .int .i64 2), (5, .slice A13 (4 + 1) c14), (6, .int .u64 (x : Int)), (7, .int .i64 (((35 - j) : Nat) : Int)), (8, .slice A40 ds.length c41), (9, .bool (decide ((((((List.replicate 4 0) ++ [p]).getD i 0) : Nat) : Int) < (((ds.getD i 0) : Nat) : Int)))), (10, .int .i64 ((i + 1 : Nat) : Int))]) (by rw [e85]) ?_
        clear e85
        refine GL.fit (ts := [1, 5, 6, 7, 8, 9, 10]) (M' := [(1, .int .i64 2), (5, .slice A13 (4 + 1) c14), (6, .int .u64 (x : Int)), (7, .int .i64 (((35 - j) : Nat) : Int)), (8, .slice A40 ds.length c41), (9, .bool (decide ((((((List.replicate 4 0) ++ [p]).getD i 0) : Nat) : Int) < (((ds.getD i 0) : Nat) : Int)))), (10, .int .i64 ((i + 1 : Nat) : Int))]) (by kernel_rfl) ?_
        refine GL.eq (M' := [(1, .int .i64 2), (5, .slice A13 (4 + 1) c14), (6, .int .u64 (x : Int)), (7, .int .i64 (((35 - j) : Nat) : Int)), (8, .slice A40 ds.length c41), (9, .bool (decide ((((((List.replicate 4 0) ++ [p]).getD i 0) : Nat) : Int) < (((ds.getD i 0) : Nat) : Int)))), (10, .int .i64 (((i + 1) : Nat) : Int))]) (by rfl) ?_
        exact GL.again ⟨(i + 1), (decide ((((((List.replicate 4 0) ++ [p]).getD i 0) : Nat) : Int) < (((ds.getD i 0) : Nat) : Int)))⟩ [1, 5, 6, 7, 8, 9, 10] rfl (by kernel_rfl) (by show 16 - (i + 1) < 16 - i; omega) ⟨⟨by omega, by rw [(cmp_step (i := i) hdok hWok).1 (by omega), decide_eq_decide]; omega⟩, H83⟩
theorem Root3_calls (p : Nat) (hp : p < 65536) (w : World) : Calls Try.prog 59 #[.int .u64 (p : Int), .int .i64 3] w fun e w' => e = .returned (.int .u32 ((rootS p 3 36 % W32 : Nat) : Int)) ∧ Hp w [] [] w' := by
  have hMX : MX = 4611686018427387904 := rfl
  have hK0 : K = 18446744073709551616 := rfl
  have hK40 : K4 = 115792089237316195423570985008687907853269984665640564039457584007913129639936 := rfl
  refine calls_G (args := [.int .u64 (p : Int), .int .i64 3]) Try.func59 rfl Try.ntmps59 rfl ?_
  intro Q0 hRet hNor hPan
  have H := Hp.start w
  have H : Hp w [] [] w := H
  refine G.seqK fun K1 hK2 => ?_
  refine G.region ?_
  refine GL.run (j := 1) 1 [0, 1] [(0, .int .u64 (p : Int)), (1, .int .i64 3)] (by kernel_rfl) rfl ?_
  refine GL.k rfl hK2 (fun _ _ h => h) ?_
  refine G.seqK fun K3 hK4 => ?_
  refine G.region ?_
  refine GL.run (j := 2) 2 [0, 1, 12] [(0, .int .u64 (p : Int)), (1, .int .i64 3), (12, .int .i64 6)] (by kernel_rfl) rfl ?_
  obtain ⟨p5, w6, r7, H8⟩ := H.makeD (P := Try.prog) (t := 34) (e := 31) (n := 6) (kl := .i64) (kc := .i64) (by kernel_rfl) (by omega)
  have H8 : Hp w [] [.row (some ⟨p5, 0, none⟩) 6 6 31 1 (dg (List.replicate 6 0))] w6 := H8
  refine GL.sem (j := 3) (r7) [0, 1, 13] [(0, .int .u64 (p : Int)), (1, .int .i64 3), (13, .slice (some ⟨p5, 0, none⟩) 6 6)] (by kernel_rfl) (by kernel_rfl) rfl ?_
  refine GL.run (j := 4) 1 [1, 13, 14] [(1, .int .i64 3), (13, .slice (some ⟨p5, 0, none⟩) 6 6), (14, .int .u64 (p : Int))] (by kernel_rfl) rfl ?_
  obtain ⟨p9, w10, r11, H12⟩ := H8.madeRow (P := Try.prog) (Instr.buildSlice 34 1 #[(0, .int .u64 (p : Int))]) (fun b_ => .slice (some ⟨b_, 0, none⟩) 1 1) [.int .u64 (p : Int)] 31 1 1 1 (by kernel_rfl) (by decide) (by decide) rfl
  have H12 : Hp w [] [.row (some ⟨p5, 0, none⟩) 6 6 31 1 (dg (List.replicate 6 0)), .row (some ⟨p9, 0, none⟩) 1 1 31 1 (dg [p])] w10 := H12
  refine GL.sem (j := 5) (r11) [1, 13, 15] [(1, .int .i64 3), (13, .slice (some ⟨p5, 0, none⟩) 6 6), (15, .slice (some ⟨p9, 0, none⟩) 1 1)] (by kernel_rfl) (by kernel_rfl) rfl ?_
  obtain ⟨A13, c14, w15, r16, H17⟩ := H12.append (P := Try.prog) (e := 31) (sz := 1) (by_ := 8) (n := 6) (c := 6) (m := 1) (d := 1) (t := 34) (ty := 34) (xs := dg (List.replicate 6 0)) (news := dg [p]) 0 rfl (by kernel_rfl) (H12.rdRow 1 rfl) (by simp [dg_length]) (dg_one _) (by omega) (by simp only [maxLen]; omega)
  rw [← dg_append] at H17
  have H17 : Hp w [] [.row A13 (6 + 1) c14 31 1 (dg ((List.replicate 6 0) ++ [p])), .row (some ⟨p9, 0, none⟩) 1 1 31 1 (dg [p])] w15 := H17
  refine GL.sem (j := 6) (r16) [1, 16] [(1, .int .i64 3), (16, .slice A13 (6 + 1) c14)] (by kernel_rfl) (by kernel_rfl) rfl ?_
  refine GL.run (j := 7) 1 [1, 5] [(1, .int .i64 3), (5, .slice A13 (6 + 1) c14)] (by kernel_rfl) rfl ?_
  refine GL.k rfl hK4 (fun _ _ h => h) ?_
  refine G.seqK fun K18 hK19 => ?_
  refine G.region ?_
  refine GL.run (j := 1) 1 [1, 5, 6] [(1, .int .i64 3), (5, .slice A13 (6 + 1) c14), (6, .int .u64 0)] (by kernel_rfl) rfl ?_
  refine GL.k rfl hK19 (fun _ _ h => h) ?_
  refine G.seqK fun K20 hK21 => ?_
  refine G.seqK fun K22 hK23 => ?_
  refine G.region ?_
  refine GL.run (j := 1) 1 [1, 5, 6, 7] [(1, .int .i64 3), (5, .slice A13 (6 + 1) c14), (6, .int .u64 0), (7, .int .i64 35)] (by kernel_rfl) rfl ?_
  refine GL.k rfl hK23 (fun _ _ h => h) ?_
  refine G.block ?_
  have hWok : ok16 ((List.replicate 6 0) ++ [p]) := fun d hd => (List.mem_append.1 hd).elim (fun hd => by rw [(List.mem_replicate.1 hd).2]; decide) (fun hd => by rw [List.mem_singleton.1 hd]; exact hp)
  have hWl : ((List.replicate 6 0) ++ [p]).length = 7 := by rw [List.length_append, List.length_replicate]; rfl
  have hWv : val ((List.replicate 6 0) ++ [p]) = p * 65536 ^ (2 * 3) := by rw [val_append, val_zeros, List.length_replicate, Nat.zero_add, Nat.mul_comm]; show (p + 65536 * 0) * _ = _; rw [Nat.mul_zero, Nat.add_zero]
  refine G.fit [1, 5, 6, 7] (M' := [(1, .int .i64 3), (5, .slice A13 (6 + 1) c14), (6, .int .u64 0), (7, .int .i64 35)]) (by kernel_rfl) ?_
  refine G.eq (M' := [(1, .int .i64 3), (5, .slice A13 (6 + 1) c14), (6, .int .u64 0), (7, .int .i64 (35 - ((0 : Nat) : Int)))]) (by rfl) ?_
  refine G.loop (X := Nat × Nat) (fun ⟨j, x⟩ => [(1, .int .i64 3), (5, .slice A13 (6 + 1) c14), (6, .int .u64 (x : Int)), (7, .int .i64 (35 - (j : Int)))]) (fun ⟨j, x⟩ w_ => (j ≤ 36 ∧ x = rootS p 3 j) ∧ Hp w [] [.row A13 (6 + 1) c14 31 1 (dg ((List.replicate 6 0) ++ [p])), .row (some ⟨p9, 0, none⟩) 1 1 31 1 (dg [p])] w_) (fun ⟨j, x⟩ => 36 - j) ⟨0, 0⟩ [1, 5, 6, 7] (by kernel_rfl) ⟨⟨by omega, rfl⟩, H17⟩ ?_
  rintro ⟨j, x⟩ w24 ⟨hi25, H26⟩
  refine G.eq (M' := [(1, .int .i64 3), (5, .slice A13 (6 + 1) c14), (6, .int .u64 (x : Int)), (7, .int .i64 (35 - (j : Int)))]) rfl ?_
  have H26 : Hp w [] [.row A13 (6 + 1) c14 31 1 (dg ((List.replicate 6 0) ++ [p])), .row (some ⟨p9, 0, none⟩) 1 1 31 1 (dg [p])] w24 := H26
  obtain ⟨hj36, hxj⟩ := hi25
  refine G.seqK fun K27 hK28 => ?_
  refine G.seqK fun K29 hK30 => ?_
  refine G.region ?_
  refine GL.run (j := 2) 2 [1, 5, 6, 7, 18] [(1, .int .i64 3), (5, .slice A13 (6 + 1) c14), (6, .int .u64 (x : Int)), (7, .int .i64 (35 - (j : Int))), (18, .bool (decide (0 ≤ (35 - (j : Int)))))] (by kernel_rfl) rfl ?_
  refine GL.k rfl hK30 (fun _ _ h => h) ?_
  cases hb31 : (decide (0 ≤ (35 - (j : Int))))
  · skip
    have hb31f := of_decide_eq_false hb31
    refine G.no rfl ?_
    refine G.exitK hK21 (fun _ _ h => h) ?_
    refine G.seqK fun K32 hK33 => ?_
    refine G.region ?_
    refine GL.run (j := 3) 3 [4] [(4, .int .u32 (IntKind.u32.wrap (x : Int)))] (by kernel_rfl) rfl ?_
    have e34 : (IntKind.u32.wrap (x : Int)) = (((x % W32) : Nat) : Int) := w_u32 _
    refine GL.eq (M' := [(4, .int .u32 (((x % W32) : Nat) : Int))]) (by rw [e34]) ?_
    clear e34
    refine GL.k rfl hK33 (fun _ _ h => h) ?_
    refine G.ret ?_
    intro F_ hF_ hM_
    refine hRet _ _ (bodyPost_1 rfl (RV.tmp rfl) ?_ F_ hF_ hM_)
    rw [show rootS p 3 36 = x by rw [hxj, show j = 36 by omega]]
    exact ⟨rfl, H26.sub (List.nil_sublist _)⟩
  · skip
    have hb31f := of_decide_eq_true hb31
    have ei : (35 - (j : Int)) = ((35 - j : Nat) : Int) := by omega
    refine G.eq (M' := [(1, .int .i64 3), (5, .slice A13 (6 + 1) c14), (6, .int .u64 (x : Int)), (7, .int .i64 (((35 - j) : Nat) : Int)), (18, .bool true)]) (by rw [ei]) ?_
    have hroom : x + 2 ^ (35 - j) < 68719476736 := by rw [hxj]; exact rootS_room (by omega)
    have h2p : 2 ^ (35 - j) ≤ 68719476736 := by omega
    refine G.yes rfl ?_
    refine G.skipK hK28 (fun _ _ h => h) ?_
    refine G.seqK fun K35 hK36 => ?_
    refine G.block ?_
    refine G.seqK fun K37 hK38 => ?_
    refine G.region ?_
    refine GL.run (j := 2) 2 [1, 5, 6, 7, 21, 22] [(1, .int .i64 3), (5, .slice A13 (6 + 1) c14), (6, .int .u64 (x : Int)), (7, .int .i64 (((35 - j) : Nat) : Int)), (21, .int .u64 (x : Int)), (22, .int .i64 (((35 - j) : Nat) : Int))] (by kernel_rfl) rfl ?_
    refine GL.sem (j := 3) (run_shl1 (P := Try.prog) (k' := .i64) (t := 31) (r := (35 - j)) (by omega) _) [1, 5, 6, 7, 21, 23] [(1, .int .i64 3), (5, .slice A13 (6 + 1) c14), (6, .int .u64 (x : Int)), (7, .int .i64 (((35 - j) : Nat) : Int)), (21, .int .u64 (x : Int)), (23, .int .u64 (((2 ^ (35 - j)) : Nat) : Int))] (by kernel_rfl) (by kernel_rfl) rfl ?_
    refine GL.run (j := 5) 2 [1, 5, 6, 7, 24, 25] [(1, .int .i64 3), (5, .slice A13 (6 + 1) c14), (6, .int .u64 (x : Int)), (7, .int .i64 (((35 - j) : Nat) : Int)), (24, .int .u64 (IntKind.u64.wrap ((x : Int) + (((2 ^ (35 - j)) : Nat) : Int)))), (25, .int .i64 3)] (by kernel_rfl) rfl ?_
    have e39 : (IntKind.u64.wrap ((x : Int) + (((2 ^ (35 - j)) : Nat) : Int))) = ((x + 2 ^ (35 - j) : Nat) : Int) := n_add' (a := x) (b := 2 ^ (35 - j)) (by omega)
    refine GL.eq (M' := [(1, .int .i64 3), (5, .slice A13 (6 + 1) c14), (6, .int .u64 (x : Int)), (7, .int .i64 (((35 - j) : Nat) : Int)), (24, .int .u64 ((x + 2 ^ (35 - j) : Nat) : Int)), (25, .int .i64 3)]) (by rw [e39]) ?_
    clear e39
    refine GL.call (j := 6) (Power_calls (x + 2 ^ (35 - j)) 3 (by omega) (by omega) w24) (by kernel_rfl) rfl (fun e_ w44 hR => ?_)
    obtain ⟨ds, A40, c41, rfl, H43, hdok, hdl, hdv⟩ := hR
    have H42 : Hp w [] [.row A13 (6 + 1) c14 31 1 (dg ((List.replicate 6 0) ++ [p])), .row (some ⟨p9, 0, none⟩) 1 1 31 1 (dg [p]), .row A40 ds.length c41 31 1 (dg ds)] w44 := H26.callNew H43
    refine ⟨_, rfl, [1, 5, 6, 7, 26], [(1, .int .i64 3), (5, .slice A13 (6 + 1) c14), (6, .int .u64 (x : Int)), (7, .int .i64 (((35 - j) : Nat) : Int)), (26, .slice A40 ds.length c41)], by kernel_rfl, ?_⟩
    refine GL.run (j := 7) 1 [1, 5, 6, 7, 8] [(1, .int .i64 3), (5, .slice A13 (6 + 1) c14), (6, .int .u64 (x : Int)), (7, .int .i64 (((35 - j) : Nat) : Int)), (8, .slice A40 ds.length c41)] (by kernel_rfl) rfl ?_
    refine GL.k rfl hK38 (fun _ _ h => h) ?_
    refine G.seqK fun K45 hK46 => ?_
    refine G.region ?_
    refine GL.run (j := 1) 1 [1, 5, 6, 7, 8, 9] [(1, .int .i64 3), (5, .slice A13 (6 + 1) c14), (6, .int .u64 (x : Int)), (7, .int .i64 (((35 - j) : Nat) : Int)), (8, .slice A40 ds.length c41), (9, .bool false)] (by kernel_rfl) rfl ?_
    refine GL.k rfl hK46 (fun _ _ h => h) ?_
    refine G.seqK fun K47 hK48 => ?_
    refine G.seqK fun K49 hK50 => ?_
    refine G.region ?_
    refine GL.run (j := 1) 1 [1, 5, 6, 7, 8, 9, 10] [(1, .int .i64 3), (5, .slice A13 (6 + 1) c14), (6, .int .u64 (x : Int)), (7, .int .i64 (((35 - j) : Nat) : Int)), (8, .slice A40 ds.length c41), (9, .bool false), (10, .int .i64 0)] (by kernel_rfl) rfl ?_
    refine GL.k rfl hK50 (fun _ _ h => h) ?_
    refine G.block ?_
    refine G.fit [1, 5, 6, 7, 8, 9, 10] (M' := [(1, .int .i64 3), (5, .slice A13 (6 + 1) c14), (6, .int .u64 (x : Int)), (7, .int .i64 (((35 - j) : Nat) : Int)), (8, .slice A40 ds.length c41), (9, .bool false), (10, .int .i64 0)]) (by kernel_rfl) ?_
    refine G.loop (X := Nat × Bool) (fun ⟨i, o⟩ => [(1, .int .i64 3), (5, .slice A13 (6 + 1) c14), (6, .int .u64 (x : Int)), (7, .int .i64 (((35 - j) : Nat) : Int)), (8, .slice A40 ds.length c41), (9, .bool o), (10, .int .i64 (i : Int))]) (fun ⟨i, o⟩ w_ => (i ≤ 16 ∧ o = decide (val (((List.replicate 6 0) ++ [p]).take i) < val (ds.take i))) ∧ Hp w [] [.row A13 (6 + 1) c14 31 1 (dg ((List.replicate 6 0) ++ [p])), .row (some ⟨p9, 0, none⟩) 1 1 31 1 (dg [p]), .row A40 ds.length c41 31 1 (dg ds)] w_) (fun ⟨i, o⟩ => 16 - i) ⟨0, false⟩ [1, 5, 6, 7, 8, 9, 10] (by kernel_rfl) ⟨⟨by omega, by rw [List.take_zero, List.take_zero]; exact (decide_eq_false (Nat.lt_irrefl _)).symm⟩, H42⟩ ?_
    rintro ⟨i, o⟩ w51 ⟨hi52, H53⟩
    refine G.eq (M' := [(1, .int .i64 3), (5, .slice A13 (6 + 1) c14), (6, .int .u64 (x : Int)), (7, .int .i64 (((35 - j) : Nat) : Int)), (8, .slice A40 ds.length c41), (9, .bool o), (10, .int .i64 (i : Int))]) rfl ?_
    have H53 : Hp w [] [.row A13 (6 + 1) c14 31 1 (dg ((List.replicate 6 0) ++ [p])), .row (some ⟨p9, 0, none⟩) 1 1 31 1 (dg [p]), .row A40 ds.length c41 31 1 (dg ds)] w51 := H53
    obtain ⟨hi16, hov⟩ := hi52
    refine G.seqK fun K54 hK55 => ?_
    refine G.seqK fun K56 hK57 => ?_
    refine G.region ?_
    refine GL.run (j := 2) 2 [1, 5, 6, 7, 8, 9, 10, 28] [(1, .int .i64 3), (5, .slice A13 (6 + 1) c14), (6, .int .u64 (x : Int)), (7, .int .i64 (((35 - j) : Nat) : Int)), (8, .slice A40 ds.length c41), (9, .bool o), (10, .int .i64 (i : Int)), (28, .bool (decide ((i : Int) < 16)))] (by kernel_rfl) rfl ?_
    refine GL.k rfl hK57 (fun _ _ h => h) ?_
    cases hb58 : (decide ((i : Int) < 16))
    · skip
      have hb58f := of_decide_eq_false hb58
      refine G.no rfl ?_
      refine G.exitK hK48 (fun _ _ h => h) ?_
      refine G.seqK fun K59 hK60 => ?_
      refine G.region ?_
      refine GL.run (j := 2) 2 [1, 5, 6, 7, 46] [(1, .int .i64 3), (5, .slice A13 (6 + 1) c14), (6, .int .u64 (x : Int)), (7, .int .i64 (((35 - j) : Nat) : Int)), (46, .bool (!o))] (by kernel_rfl) rfl ?_
      refine GL.k rfl hK60 (fun _ _ h => h) ?_
      rcases (Bool.eq_false_or_eq_true o).symm with hb61 | hb61
      · skip
        refine G.eq (M' := [(1, .int .i64 3), (5, .slice A13 (6 + 1) c14), (6, .int .u64 (x : Int)), (7, .int .i64 (((35 - j) : Nat) : Int)), (46, .bool true)]) (by first | (rw [hb61]; done) | (rw [hb61]; rfl)) ?_
        refine G.yes rfl ?_
        refine G.region ?_
        refine GL.run (j := 2) 2 [1, 5, 7, 47, 48] [(1, .int .i64 3), (5, .slice A13 (6 + 1) c14), (7, .int .i64 (((35 - j) : Nat) : Int)), (47, .int .u64 (x : Int)), (48, .int .i64 (((35 - j) : Nat) : Int))] (by kernel_rfl) rfl ?_
        refine GL.sem (j := 3) (run_shl1 (P := Try.prog) (k' := .i64) (t := 31) (r := (35 - j)) (by omega) _) [1, 5, 7, 47, 49] [(1, .int .i64 3), (5, .slice A13 (6 + 1) c14), (7, .int .i64 (((35 - j) : Nat) : Int)), (47, .int .u64 (x : Int)), (49, .int .u64 (((2 ^ (35 - j)) : Nat) : Int))] (by kernel_rfl) (by kernel_rfl) rfl ?_
        refine GL.run (j := 5) 2 [1, 5, 6, 7] [(1, .int .i64 3), (5, .slice A13 (6 + 1) c14), (6, .int .u64 (IntKind.u64.wrap ((x : Int) + (((2 ^ (35 - j)) : Nat) : Int)))), (7, .int .i64 (((35 - j) : Nat) : Int))] (by kernel_rfl) rfl ?_
        have e62 : (IntKind.u64.wrap ((x : Int) + (((2 ^ (35 - j)) : Nat) : Int))) = ((x + 2 ^ (35 - j) : Nat) : Int) := n_add' (a := x) (b := 2 ^ (35 - j)) (by omega)
        refine GL.eq (M' := [(1, .int .i64 3), (5, .slice A13 (6 + 1) c14), (6, .int .u64 ((x + 2 ^ (35 - j) : Nat) : Int)), (7, .int .i64 (((35 - j) : Nat) : Int))]) (by rw [e62]) ?_
        clear e62
        refine GL.k rfl hK36 (fun _ _ h => h) ?_
        refine G.region ?_
        refine GL.run (j := 3) 3 [1, 5, 6, 7] [(1, .int .i64 3), (5, .slice A13 (6 + 1) c14), (6, .int .u64 ((x + 2 ^ (35 - j) : Nat) : Int)), (7, .int .i64 (IntKind.i64.wrap ((((35 - j) : Nat) : Int) - 1)))] (by kernel_rfl) rfl ?_
        have e63 : (IntKind.i64.wrap ((((35 - j) : Nat) : Int) - 1)) = (34 - (j : Int)) := by rw [in_i64 (by omega)]; omega
        refine GL.eq (M' := [(1, .int .i64 3), (5, .slice A13 (6 + 1) c14), (6, .int .u64 ((x + 2 ^ (35 - j) : Nat) : Int)), (7, .int .i64 (34 - (j : Int)))]) (by rw [e63]) ?_
        clear e63
        have H64 : Hp w [] [.row A13 (6 + 1) c14 31 1 (dg ((List.replicate 6 0) ++ [p])), .row (some ⟨p9, 0, none⟩) 1 1 31 1 (dg [p])] w51 := H53.sub (List.Sublist.cons_cons _ (List.Sublist.cons_cons _ (List.Sublist.cons _ (List.Sublist.slnil))))
        have hcmp : o = decide (p * 65536 ^ (2 * 3) < (x + 2 ^ (35 - j)) ^ 3) := by rw [hov, show i = 16 by omega, List.take_of_length_le (by omega), List.take_of_length_le (by omega), hWv, hdv]
        have hroot : rootS p 3 (j + 1) = (x + 2 ^ (35 - j)) := by rw [rootS, ← hxj, if_pos (by have := of_decide_eq_false (hcmp.symm.trans hb61); omega)]
        refine GL.fit (ts := [1, 5, 6, 7]) (M' := [(1, .int .i64 3), (5, .slice A13 (6 + 1) c14), (6, .int .u64 ((x + 2 ^ (35 - j) : Nat) : Int)), (7, .int .i64 (34 - (j : Int)))]) (by kernel_rfl) ?_
        refine GL.eq (M' := [(1, .int .i64 3), (5, .slice A13 (6 + 1) c14), (6, .int .u64 (((x + 2 ^ (35 - j)) : Nat) : Int)), (7, .int .i64 (35 - (((j + 1) : Nat) : Int)))]) (by rw [show (34 - (j : Int)) = 35 - ((j + 1 : Nat) : Int) by omega]) ?_
        exact GL.again ⟨(j + 1), (x + 2 ^ (35 - j))⟩ [1, 5, 6, 7] rfl (by kernel_rfl) (by show 36 - (j + 1) < 36 - j; omega) ⟨⟨by omega, hroot.symm⟩, H64⟩
      · skip
        refine G.eq (M' := [(1, .int .i64 3), (5, .slice A13 (6 + 1) c14), (6, .int .u64 (x : Int)), (7, .int .i64 (((35 - j) : Nat) : Int)), (46, .bool false)]) (by first | (rw [hb61]; done) | (rw [hb61]; rfl)) ?_
        refine G.no rfl ?_
        refine G.skipK hK36 (fun _ _ h => h) ?_
        refine G.region ?_
        refine GL.run (j := 3) 3 [1, 5, 6, 7] [(1, .int .i64 3), (5, .slice A13 (6 + 1) c14), (6, .int .u64 (x : Int)), (7, .int .i64 (IntKind.i64.wrap ((((35 - j) : Nat) : Int) - 1)))] (by kernel_rfl) rfl ?_
        have e65 : (IntKind.i64.wrap ((((35 - j) : Nat) : Int) - 1)) = (34 - (j : Int)) := by rw [in_i64 (by omega)]; omega
        refine GL.eq (M' := [(1, .int .i64 3), (5, .slice A13 (6 + 1) c14), (6, .int .u64 (x : Int)), (7, .int .i64 (34 - (j : Int)))]) (by rw [e65]) ?_
        clear e65
        have H66 : Hp w [] [.row A13 (6 + 1) c14 31 1 (dg ((List.replicate 6 0) ++ [p])), .row (some ⟨p9, 0, none⟩) 1 1 31 1 (dg [p])] w51 := H53.sub (List.Sublist.cons_cons _ (List.Sublist.cons_cons _ (List.Sublist.cons _ (List.Sublist.slnil))))
        have hcmp : o = decide (p * 65536 ^ (2 * 3) < (x + 2 ^ (35 - j)) ^ 3) := by rw [hov, show i = 16 by omega, List.take_of_length_le (by omega), List.take_of_length_le (by omega), hWv, hdv]
        have hroot : rootS p 3 (j + 1) = x := by rw [rootS, ← hxj, if_neg (by have := of_decide_eq_true (hcmp.symm.trans hb61); omega)]
        refine GL.fit (ts := [1, 5, 6, 7]) (M' := [(1, .int .i64 3), (5, .slice A13 (6 + 1) c14), (6, .int .u64 (x : Int)), (7, .int .i64 (34 - (j : Int)))]) (by kernel_rfl) ?_
        refine GL.eq (M' := [(1, .int .i64 3), (5, .slice A13 (6 + 1) c14), (6, .int .u64 (x : Int)), (7, .int .i64 (35 - (((j + 1) : Nat) : Int)))]) (by rw [show (34 - (j : Int)) = 35 - ((j + 1 : Nat) : Int) by omega]) ?_
        exact GL.again ⟨(j + 1), x⟩ [1, 5, 6, 7] rfl (by kernel_rfl) (by show 36 - (j + 1) < 36 - j; omega) ⟨⟨by omega, hroot.symm⟩, H66⟩
    · skip
      have hb58f := of_decide_eq_true hb58
      refine G.yes rfl ?_
      refine G.skipK hK55 (fun _ _ h => h) ?_
      refine G.seqK fun K67 hK68 => ?_
      refine G.block ?_
      refine G.seqK fun K69 hK70 => ?_
      refine G.region ?_
      refine GL.run (j := 2) 2 [1, 5, 6, 7, 8, 9, 10, 31, 32] [(1, .int .i64 3), (5, .slice A13 (6 + 1) c14), (6, .int .u64 (x : Int)), (7, .int .i64 (((35 - j) : Nat) : Int)), (8, .slice A40 ds.length c41), (9, .bool o), (10, .int .i64 (i : Int)), (31, .slice A40 ds.length c41), (32, .int .i64 (i : Int))] (by kernel_rfl) rfl ?_
      refine GL.call (j := 3) (Digit_calls ds i ds.length A40 c41 w51 (H53.rdRow 2 rfl) (rfl)) (by kernel_rfl) rfl (fun e_ w71 hR => ?_)
      obtain ⟨rfl, H73⟩ := hR
      have H72 : Hp w [] [.row A13 (6 + 1) c14 31 1 (dg ((List.replicate 6 0) ++ [p])), .row (some ⟨p9, 0, none⟩) 1 1 31 1 (dg [p]), .row A40 ds.length c41 31 1 (dg ds)] w71 := H53.callNil H73
      refine ⟨_, rfl, [1, 5, 6, 7, 8, 9, 10, 33], [(1, .int .i64 3), (5, .slice A13 (6 + 1) c14), (6, .int .u64 (x : Int)), (7, .int .i64 (((35 - j) : Nat) : Int)), (8, .slice A40 ds.length c41), (9, .bool o), (10, .int .i64 (i : Int)), (33, .int .u64 (((ds.getD i 0) : Nat) : Int))], by kernel_rfl, ?_⟩
      refine GL.run (j := 5) 2 [1, 5, 6, 7, 8, 9, 10, 33, 34, 35] [(1, .int .i64 3), (5, .slice A13 (6 + 1) c14), (6, .int .u64 (x : Int)), (7, .int .i64 (((35 - j) : Nat) : Int)), (8, .slice A40 ds.length c41), (9, .bool o), (10, .int .i64 (i : Int)), (33, .int .u64 (((ds.getD i 0) : Nat) : Int)), (34, .slice A13 (6 + 1) c14), (35, .int .i64 (i : Int))] (by kernel_rfl) rfl ?_
      refine GL.call (j := 6) (Digit_calls ((List.replicate 6 0) ++ [p]) i (6 + 1) A13 c14 w71 (H72.rdRow 0 rfl) (by omega)) (by kernel_rfl) rfl (fun e_ w74 hR => ?_)
      obtain ⟨rfl, H76⟩ := hR
      have H75 : Hp w [] [.row A13 (6 + 1) c14 31 1 (dg ((List.replicate 6 0) ++ [p])), .row (some ⟨p9, 0, none⟩) 1 1 31 1 (dg [p]), .row A40 ds.length c41 31 1 (dg ds)] w74 := H72.callNil H76
      refine ⟨_, rfl, [1, 5, 6, 7, 8, 9, 10, 33, 36], [(1, .int .i64 3), (5, .slice A13 (6 + 1) c14), (6, .int .u64 (x : Int)), (7, .int .i64 (((35 - j) : Nat) : Int)), (8, .slice A40 ds.length c41), (9, .bool o), (10, .int .i64 (i : Int)), (33, .int .u64 (((ds.getD i 0) : Nat) : Int)), (36, .int .u64 (((((List.replicate 6 0) ++ [p]).getD i 0) : Nat) : Int))], by kernel_rfl, ?_⟩
      refine GL.run (j := 7) 1 [1, 5, 6, 7, 8, 9, 10, 37] [(1, .int .i64 3), (5, .slice A13 (6 + 1) c14), (6, .int .u64 (x : Int)), (7, .int .i64 (((35 - j) : Nat) : Int)), (8, .slice A40 ds.length c41), (9, .bool o), (10, .int .i64 (i : Int)), (37, .bool ((((ds.getD i 0) : Nat) : Int) != (((((List.replicate 6 0) ++ [p]).getD i 0) : Nat) : Int)))] (by kernel_rfl) rfl ?_
      refine GL.k rfl hK70 (fun _ _ h => h) ?_
      cases hb77 : ((((ds.getD i 0) : Nat) : Int) != (((((List.replicate 6 0) ++ [p]).getD i 0) : Nat) : Int))
      · skip
        have hb77f : (((ds.getD i 0) : Nat) : Int) = (((((List.replicate 6 0) ++ [p]).getD i 0) : Nat) : Int) := bne_eq_false_iff_eq.1 hb77
        refine G.no rfl ?_
        refine G.skipK hK68 (fun _ _ h => h) ?_
        refine G.region ?_
        refine GL.run (j := 3) 3 [1, 5, 6, 7, 8, 9, 10] [(1, .int .i64 3), (5, .slice A13 (6 + 1) c14), (6, .int .u64 (x : Int)), (7, .int .i64 (((35 - j) : Nat) : Int)), (8, .slice A40 ds.length c41), (9, .bool o), (10, .int .i64 (IntKind.i64.wrap ((i : Int) + 1)))] (by kernel_rfl) rfl ?_
        have e78 : (IntKind.i64.wrap ((i : Int) + 1)) = ((i + 1 : Nat) : Int) := by rw [in_i64 (by omega)]; omega
        refine GL.eq (M' := [(1, .int .i64 3), (5, .slice A13 (6 + 1) c14), (6, .int .u64 (x : Int)), (7, .int .i64 (((35 - j) : Nat) : Int)), (8, .slice A40 ds.length c41), (9, .bool o), (10, .int .i64 ((i + 1 : Nat) : Int))]) (by rw [e78]) ?_
        clear e78
        refine GL.fit (ts := [1, 5, 6, 7, 8, 9, 10]) (M' := [(1, .int .i64 3), (5, .slice A13 (6 + 1) c14), (6, .int .u64 (x : Int)), (7, .int .i64 (((35 - j) : Nat) : Int)), (8, .slice A40 ds.length c41), (9, .bool o), (10, .int .i64 ((i + 1 : Nat) : Int))]) (by kernel_rfl) ?_
        refine GL.eq (M' := [(1, .int .i64 3), (5, .slice A13 (6 + 1) c14), (6, .int .u64 (x : Int)), (7, .int .i64 (((35 - j) : Nat) : Int)), (8, .slice A40 ds.length c41), (9, .bool o), (10, .int .i64 (((i + 1) : Nat) : Int))]) (by rfl) ?_
        exact GL.again ⟨(i + 1), o⟩ [1, 5, 6, 7, 8, 9, 10] rfl (by kernel_rfl) (by show 16 - (i + 1) < 16 - i; omega) ⟨⟨by omega, by rw [(cmp_step (i := i) hdok hWok).2 (by omega), hov]⟩, H75⟩
      · skip
        have hb77f : (((ds.getD i 0) : Nat) : Int) ≠ (((((List.replicate 6 0) ++ [p]).getD i 0) : Nat) : Int) := bne_iff_ne.1 hb77
        refine G.yes rfl ?_
        refine G.region ?_
        refine GL.run (j := 2) 2 [1, 5, 6, 7, 8, 10, 38, 39] [(1, .int .i64 3), (5, .slice A13 (6 + 1) c14), (6, .int .u64 (x : Int)), (7, .int .i64 (((35 - j) : Nat) : Int)), (8, .slice A40 ds.length c41), (10, .int .i64 (i : Int)), (38, .slice A40 ds.length c41), (39, .int .i64 (i : Int))] (by kernel_rfl) rfl ?_
        refine GL.call (j := 3) (Digit_calls ds i ds.length A40 c41 w74 (H75.rdRow 2 rfl) (rfl)) (by kernel_rfl) rfl (fun e_ w79 hR => ?_)
        obtain ⟨rfl, H81⟩ := hR
        have H80 : Hp w [] [.row A13 (6 + 1) c14 31 1 (dg ((List.replicate 6 0) ++ [p])), .row (some ⟨p9, 0, none⟩) 1 1 31 1 (dg [p]), .row A40 ds.length c41 31 1 (dg ds)] w79 := H75.callNil H81
        refine ⟨_, rfl, [1, 5, 6, 7, 8, 10, 40], [(1, .int .i64 3), (5, .slice A13 (6 + 1) c14), (6, .int .u64 (x : Int)), (7, .int .i64 (((35 - j) : Nat) : Int)), (8, .slice A40 ds.length c41), (10, .int .i64 (i : Int)), (40, .int .u64 (((ds.getD i 0) : Nat) : Int))], by kernel_rfl, ?_⟩
        refine GL.run (j := 5) 2 [1, 5, 6, 7, 8, 10, 40, 41, 42] [(1, .int .i64 3), (5, .slice A13 (6 + 1) c14), (6, .int .u64 (x : Int)), (7, .int .i64 (((35 - j) : Nat) : Int)), (8, .slice A40 ds.length c41), (10, .int .i64 (i : Int)), (40, .int .u64 (((ds.getD i 0) : Nat) : Int)), (41, .slice A13 (6 + 1) c14), (42, .int .i64 (i : Int))] (by kernel_rfl) rfl ?_
        refine GL.call (j := 6) (Digit_calls ((List.replicate 6 0) ++ [p]) i (6 + 1) A13 c14 w79 (H80.rdRow 0 rfl) (by omega)) (by kernel_rfl) rfl (fun e_ w82 hR => ?_)
        obtain ⟨rfl, H84⟩ := hR
        have H83 : Hp w [] [.row A13 (6 + 1) c14 31 1 (dg ((List.replicate 6 0) ++ [p])), .row (some ⟨p9, 0, none⟩) 1 1 31 1 (dg [p]), .row A40 ds.length c41 31 1 (dg ds)] w82 := H80.callNil H84
        refine ⟨_, rfl, [1, 5, 6, 7, 8, 10, 40, 43], [(1, .int .i64 3), (5, .slice A13 (6 + 1) c14), (6, .int .u64 (x : Int)), (7, .int .i64 (((35 - j) : Nat) : Int)), (8, .slice A40 ds.length c41), (10, .int .i64 (i : Int)), (40, .int .u64 (((ds.getD i 0) : Nat) : Int)), (43, .int .u64 (((((List.replicate 6 0) ++ [p]).getD i 0) : Nat) : Int))], by kernel_rfl, ?_⟩
        refine GL.run (j := 8) 2 [1, 5, 6, 7, 8, 9, 10] [(1, .int .i64 3), (5, .slice A13 (6 + 1) c14), (6, .int .u64 (x : Int)), (7, .int .i64 (((35 - j) : Nat) : Int)), (8, .slice A40 ds.length c41), (9, .bool (decide ((((((List.replicate 6 0) ++ [p]).getD i 0) : Nat) : Int) < (((ds.getD i 0) : Nat) : Int)))), (10, .int .i64 (i : Int))] (by kernel_rfl) rfl ?_
        refine GL.k rfl hK68 (fun _ _ h => h) ?_
        refine G.region ?_
        refine GL.run (j := 3) 3 [1, 5, 6, 7, 8, 9, 10] [(1, .int .i64 3), (5, .slice A13 (6 + 1) c14), (6, .int .u64 (x : Int)), (7, .int .i64 (((35 - j) : Nat) : Int)), (8, .slice A40 ds.length c41), (9, .bool (decide ((((((List.replicate 6 0) ++ [p]).getD i 0) : Nat) : Int) < (((ds.getD i 0) : Nat) : Int)))), (10, .int .i64 (IntKind.i64.wrap ((i : Int) + 1)))] (by kernel_rfl) rfl ?_
        have e85 : (IntKind.i64.wrap ((i : Int) + 1)) = ((i + 1 : Nat) : Int) := by rw [in_i64 (by omega)]; omega
        refine GL.eq (M' := [(1, .int .i64 3), (5, .slice A13 (6 + 1) c14), (6, .int .u64 (x : Int)), (7, .int .i64 (((35 - j) : Nat) : Int)), (8, .slice A40 ds.length c41), (9, .bool (decide ((((((List.replicate 6 0) ++ [p]).getD i 0) : Nat) : Int) < (((ds.getD i 0) : Nat) : Int)))), (10, .int .i64 ((i + 1 : Nat) : Int))]) (by rw [e85]) ?_
        clear e85
        refine GL.fit (ts := [1, 5, 6, 7, 8, 9, 10]) (M' := [(1, .int .i64 3), (5, .slice A13 (6 + 1) c14), (6, .int .u64 (x : Int)), (7, .int .i64 (((35 - j) : Nat) : Int)), (8, .slice A40 ds.length c41), (9, .bool (decide ((((((List.replicate 6 0) ++ [p]).getD i 0) : Nat) : Int) < (((ds.getD i 0) : Nat) : Int)))), (10, .int .i64 ((i + 1 : Nat) : Int))]) (by kernel_rfl) ?_
        refine GL.eq (M' := [(1, .int .i64 3), (5, .slice A13 (6 + 1) c14), (6, .int .u64 (x : Int)), (7, .int .i64 (((35 - j) : Nat) : Int)), (8, .slice A40 ds.length c41), (9, .bool (decide ((((((List.replicate 6 0) ++ [p]).getD i 0) : Nat) : Int) < (((ds.getD i 0) : Nat) : Int)))), (10, .int .i64 (((i + 1) : Nat) : Int))]) (by rfl) ?_
        exact GL.again ⟨(i + 1), (decide ((((((List.replicate 6 0) ++ [p]).getD i 0) : Nat) : Int) < (((ds.getD i 0) : Nat) : Int)))⟩ [1, 5, 6, 7, 8, 9, 10] rfl (by kernel_rfl) (by show 16 - (i + 1) < 16 - i; omega) ⟨⟨by omega, by rw [(cmp_step (i := i) hdok hWok).1 (by omega), decide_eq_decide]; omega⟩, H83⟩
theorem Primes_calls (w : World) : Calls Try.prog 58 #[.int .i64 64] w fun e w' => ∃ A c, e = .returned (.slice A 64 c) ∧ Hp w [] [.row A 64 c 31 1 (dg PR)] w' := by
  have hMX : MX = 4611686018427387904 := rfl
  have hK0 : K = 18446744073709551616 := rfl
  have hK40 : K4 = 115792089237316195423570985008687907853269984665640564039457584007913129639936 := rfl
  refine calls_G (args := [.int .i64 64]) Try.func58 rfl Try.ntmps58 rfl ?_
  intro Q0 hRet hNor hPan
  have H := Hp.start w
  have H : Hp w [] [] w := H
  refine G.seqK fun K1 hK2 => ?_
  refine G.region ?_
  refine GL.run (j := 1) 1 [0] [(0, .int .i64 64)] (by kernel_rfl) rfl ?_
  refine GL.k rfl hK2 (fun _ _ h => h) ?_
  refine G.seqK fun K3 hK4 => ?_
  refine G.region ?_
  obtain ⟨p5, w6, r7, H8⟩ := H.madeRow (P := Try.prog) (Instr.buildSlice 34 0 #[]) (fun b_ => .slice (some ⟨b_, 0, none⟩) 0 0) [] 31 0 0 1 (by kernel_rfl) (by decide) (by decide) rfl
  have H8 : Hp w [] [.row (some ⟨p5, 0, none⟩) 0 0 31 1 (dg [])] w6 := H8
  refine GL.sem (j := 1) (r7) [0, 8] [(0, .int .i64 64), (8, .slice (some ⟨p5, 0, none⟩) 0 0)] (by kernel_rfl) (by kernel_rfl) rfl ?_
  refine GL.run (j := 2) 1 [0, 3] [(0, .int .i64 64), (3, .slice (some ⟨p5, 0, none⟩) 0 0)] (by kernel_rfl) rfl ?_
  refine GL.k rfl hK4 (fun _ _ h => h) ?_
  refine G.seqK fun K9 hK10 => ?_
  refine G.seqK fun K11 hK12 => ?_
  refine G.region ?_
  refine GL.run (j := 1) 1 [0, 3, 4] [(0, .int .i64 64), (3, .slice (some ⟨p5, 0, none⟩) 0 0), (4, .int .u64 2)] (by kernel_rfl) rfl ?_
  refine GL.k rfl hK12 (fun _ _ h => h) ?_
  refine G.block ?_
  have H13 : Hp w [] [.row (some ⟨p5, 0, none⟩) ((prF 0).length) 0 31 1 (dg (prF 0))] w6 := H8
  refine G.fit [0, 3, 4] (M' := [(0, .int .i64 64), (3, .slice (some ⟨p5, 0, none⟩) ((prF 0).length) 0), (4, .int .u64 2)]) (by kernel_rfl) ?_
  refine G.eq (M' := [(0, .int .i64 64), (3, .slice (some ⟨p5, 0, none⟩) ((prF 0).length) 0), (4, .int .u64 (((0 + 2) : Nat) : Int))]) (by rfl) ?_
  refine G.loop (X := Nat × Option Addr × Nat) (fun ⟨k, A_, c_⟩ => [(0, .int .i64 64), (3, .slice A_ ((prF k).length) c_), (4, .int .u64 (((k + 2) : Nat) : Int))]) (fun ⟨k, A_, c_⟩ w_ => (k ≤ 310) ∧ Hp w [] [.row A_ ((prF k).length) c_ 31 1 (dg (prF k))] w_) (fun ⟨k, A_, c_⟩ => 310 - k) ⟨0, (some ⟨p5, 0, none⟩), 0⟩ [0, 3, 4] (by kernel_rfl) ⟨by omega, H13⟩ ?_
  rintro ⟨k, A_, c_⟩ w14 ⟨hi15, H16⟩
  refine G.eq (M' := [(0, .int .i64 64), (3, .slice A_ ((prF k).length) c_), (4, .int .u64 (((k + 2) : Nat) : Int))]) rfl ?_
  have H16 : Hp w [] [.row A_ ((prF k).length) c_ 31 1 (dg (prF k))] w14 := H16
  have hk310 := hi15
  refine G.seqK fun K17 hK18 => ?_
  refine G.seqK fun K19 hK20 => ?_
  refine G.region ?_
  refine GL.run (j := 4) 4 [0, 3, 4, 12] [(0, .int .i64 64), (3, .slice A_ ((prF k).length) c_), (4, .int .u64 (((k + 2) : Nat) : Int)), (12, .bool (decide ((((prF k).length : Nat) : Int) < 64)))] (by kernel_rfl) rfl ?_
  refine GL.k rfl hK20 (fun _ _ h => h) ?_
  cases hb21 : (decide ((((prF k).length : Nat) : Int) < 64))
  · skip
    have hb21f := of_decide_eq_false hb21
    have hkE : k = 310 := prF_out hk310 (by omega)
    refine G.no rfl ?_
    refine G.exitK hK10 (fun _ _ h => h) ?_
    refine G.seqK fun K22 hK23 => ?_
    refine G.region ?_
    refine GL.run (j := 2) 2 [2] [(2, .slice A_ ((prF k).length) c_)] (by kernel_rfl) rfl ?_
    refine GL.k rfl hK23 (fun _ _ h => h) ?_
    refine G.ret ?_
    intro F_ hF_ hM_
    refine hRet _ _ (bodyPost_1 rfl (RV.tmp rfl) ?_ F_ hF_ hM_)
    have H24 := H16
    rw [hkE, prF_all] at H24
    refine ⟨A_, c_, ?_, H24⟩
    rw [hkE, prF_all]
    rfl
  · skip
    have hb21f := of_decide_eq_true hb21
    have hk9 : k < 310 := prF_in (by omega)
    refine G.yes rfl ?_
    refine G.skipK hK18 (fun _ _ h => h) ?_
    refine G.seqK fun K25 hK26 => ?_
    refine G.block ?_
    refine G.seqK fun K27 hK28 => ?_
    refine G.region ?_
    refine GL.run (j := 1) 1 [0, 3, 4, 5] [(0, .int .i64 64), (3, .slice A_ ((prF k).length) c_), (4, .int .u64 (((k + 2) : Nat) : Int)), (5, .bool true)] (by kernel_rfl) rfl ?_
    refine GL.k rfl hK28 (fun _ _ h => h) ?_
    refine G.seqK fun K29 hK30 => ?_
    refine G.seqK fun K31 hK32 => ?_
    refine G.region ?_
    refine GL.run (j := 3) 3 [0, 3, 4, 5, 15, 16, 17] [(0, .int .i64 64), (3, .slice A_ ((prF k).length) c_), (4, .int .u64 (((k + 2) : Nat) : Int)), (5, .bool true), (15, .slice A_ ((prF k).length) c_), (16, .int .i64 (((prF k).length : Nat) : Int)), (17, .int .i64 0)] (by kernel_rfl) rfl ?_
    refine GL.k rfl hK32 (fun _ _ h => h) ?_
    refine G.block ?_
    refine G.fit [0, 3, 4, 5, 15, 16, 17] (M' := [(0, .int .i64 64), (3, .slice A_ ((prF k).length) c_), (4, .int .u64 (((k + 2) : Nat) : Int)), (5, .bool true), (15, .slice A_ ((prF k).length) c_), (16, .int .i64 (((prF k).length : Nat) : Int)), (17, .int .i64 0)]) (by kernel_rfl) ?_
    refine G.loop (X := Nat × Bool) (fun ⟨j, b⟩ => [(0, .int .i64 64), (3, .slice A_ ((prF k).length) c_), (4, .int .u64 (((k + 2) : Nat) : Int)), (5, .bool b), (15, .slice A_ ((prF k).length) c_), (16, .int .i64 (((prF k).length : Nat) : Int)), (17, .int .i64 (j : Int))]) (fun ⟨j, b⟩ w_ => (j ≤ (prF k).length ∧ b = ((prF k).take j).all (fun q => decide ((k + 2) % q ≠ 0))) ∧ Hp w [] [.row A_ ((prF k).length) c_ 31 1 (dg (prF k))] w_) (fun ⟨j, b⟩ => (prF k).length - j) ⟨0, true⟩ [0, 3, 4, 5, 15, 16, 17] (by kernel_rfl) ⟨⟨Nat.zero_le _, by rw [List.take_zero]; rfl⟩, H16⟩ ?_
    rintro ⟨j, b⟩ w33 ⟨hi34, H35⟩
    refine G.eq (M' := [(0, .int .i64 64), (3, .slice A_ ((prF k).length) c_), (4, .int .u64 (((k + 2) : Nat) : Int)), (5, .bool b), (15, .slice A_ ((prF k).length) c_), (16, .int .i64 (((prF k).length : Nat) : Int)), (17, .int .i64 (j : Int))]) rfl ?_
    have H35 : Hp w [] [.row A_ ((prF k).length) c_ 31 1 (dg (prF k))] w33 := H35
    obtain ⟨hjl, hbj⟩ := hi34
    refine G.seqK fun K36 hK37 => ?_
    refine G.region ?_
    refine GL.run (j := 1) 1 [0, 3, 4, 5, 15, 16, 17, 18] [(0, .int .i64 64), (3, .slice A_ ((prF k).length) c_), (4, .int .u64 (((k + 2) : Nat) : Int)), (5, .bool b), (15, .slice A_ ((prF k).length) c_), (16, .int .i64 (((prF k).length : Nat) : Int)), (17, .int .i64 (j : Int)), (18, .bool (decide ((j : Int) < (((prF k).length : Nat) : Int))))] (by kernel_rfl) rfl ?_
    refine GL.k rfl hK37 (fun _ _ h => h) ?_
    refine G.seqK fun K38 hK39 => ?_
    cases hb40 : (decide ((j : Int) < (((prF k).length : Nat) : Int)))
    · skip
      have hb40f := of_decide_eq_false hb40
      have hbw : b = (prF k).all (fun q => decide ((k + 2) % q ≠ 0)) := by rw [hbj, List.take_of_length_le (by omega)]
      refine G.no rfl ?_
      refine G.exitK hK30 (fun _ _ h => h) ?_
      refine G.seqK fun K41 hK42 => ?_
      refine G.region ?_
      refine GL.run (j := 1) 1 [0, 3, 4, 29] [(0, .int .i64 64), (3, .slice A_ ((prF k).length) c_), (4, .int .u64 (((k + 2) : Nat) : Int)), (29, .bool b)] (by kernel_rfl) rfl ?_
      refine GL.k rfl hK42 (fun _ _ h => h) ?_
      rcases (Bool.eq_false_or_eq_true b).symm with hb43 | hb43
      · skip
        refine G.eq (M' := [(0, .int .i64 64), (3, .slice A_ ((prF k).length) c_), (4, .int .u64 (((k + 2) : Nat) : Int)), (29, .bool false)]) (by first | (rw [hb43]; done) | (rw [hb43]; rfl)) ?_
        refine G.no rfl ?_
        refine G.skipK hK26 (fun _ _ h => h) ?_
        refine G.region ?_
        refine GL.run (j := 3) 3 [0, 3, 4] [(0, .int .i64 64), (3, .slice A_ ((prF k).length) c_), (4, .int .u64 (IntKind.u64.wrap ((((k + 2) : Nat) : Int) + 1)))] (by kernel_rfl) rfl ?_
        have e44 : (IntKind.u64.wrap ((((k + 2) : Nat) : Int) + 1)) = ((k + 1 + 2 : Nat) : Int) := (n_add' (a := k + 2) (b := 1) (by omega))
        refine GL.eq (M' := [(0, .int .i64 64), (3, .slice A_ ((prF k).length) c_), (4, .int .u64 ((k + 1 + 2 : Nat) : Int))]) (by rw [e44]) ?_
        clear e44
        have hst : prF (k + 1) = prF k := by rw [prF, if_neg (by rw [← hbw]; rw [hb43]; decide)]
        have H45 : Hp w [] [.row A_ ((prF (k + 1)).length) c_ 31 1 (dg (prF (k + 1)))] w33 := by rw [hst]; exact H35
        refine GL.fit (ts := [0, 3, 4]) (M' := [(0, .int .i64 64), (3, .slice A_ ((prF k).length) c_), (4, .int .u64 ((k + 1 + 2 : Nat) : Int))]) (by kernel_rfl) ?_
        refine GL.eq (M' := [(0, .int .i64 64), (3, .slice A_ ((prF (k + 1)).length) c_), (4, .int .u64 ((((k + 1) + 2) : Nat) : Int))]) (by first | (rw [hst]; done) | (rw [hst]; rfl)) ?_
        exact GL.again ⟨(k + 1), A_, c_⟩ [0, 3, 4] rfl (by kernel_rfl) (by show 310 - (k + 1) < 310 - k; omega) ⟨by omega, H45⟩
      · skip
        refine G.eq (M' := [(0, .int .i64 64), (3, .slice A_ ((prF k).length) c_), (4, .int .u64 (((k + 2) : Nat) : Int)), (29, .bool true)]) (by first | (rw [hb43]; done) | (rw [hb43]; rfl)) ?_
        refine G.yes rfl ?_
        refine G.region ?_
        refine GL.run (j := 2) 2 [0, 4, 30, 31] [(0, .int .i64 64), (4, .int .u64 (((k + 2) : Nat) : Int)), (30, .slice A_ ((prF k).length) c_), (31, .int .u64 (((k + 2) : Nat) : Int))] (by kernel_rfl) rfl ?_
        obtain ⟨p46, w47, r48, H49⟩ := H35.madeRow (P := Try.prog) (Instr.buildSlice 34 1 #[(0, .int .u64 (((k + 2) : Nat) : Int))]) (fun b_ => .slice (some ⟨b_, 0, none⟩) 1 1) [.int .u64 (((k + 2) : Nat) : Int)] 31 1 1 1 (by kernel_rfl) (by decide) (by decide) rfl
        have H49 : Hp w [] [.row A_ ((prF k).length) c_ 31 1 (dg (prF k)), .row (some ⟨p46, 0, none⟩) 1 1 31 1 (dg [(k + 2)])] w47 := H49
        refine GL.sem (j := 3) (r48) [0, 4, 30, 32] [(0, .int .i64 64), (4, .int .u64 (((k + 2) : Nat) : Int)), (30, .slice A_ ((prF k).length) c_), (32, .slice (some ⟨p46, 0, none⟩) 1 1)] (by kernel_rfl) (by kernel_rfl) rfl ?_
        obtain ⟨A50, c51, w52, r53, H54⟩ := H49.append (P := Try.prog) (e := 31) (sz := 1) (by_ := 8) (n := (prF k).length) (c := c_) (m := 1) (d := 1) (t := 34) (ty := 34) (xs := dg (prF k)) (news := dg [(k + 2)]) 0 rfl (by kernel_rfl) (H49.rdRow 1 rfl) (by simp [dg_length]) (dg_one _) (by omega) (by simp only [maxLen]; omega)
        rw [← dg_append] at H54
        have H54 : Hp w [] [.row A50 ((prF k).length + 1) c51 31 1 (dg ((prF k) ++ [(k + 2)])), .row (some ⟨p46, 0, none⟩) 1 1 31 1 (dg [(k + 2)])] w52 := H54
        refine GL.sem (j := 4) (r53) [0, 4, 33] [(0, .int .i64 64), (4, .int .u64 (((k + 2) : Nat) : Int)), (33, .slice A50 ((prF k).length + 1) c51)] (by kernel_rfl) (by kernel_rfl) rfl ?_
        refine GL.run (j := 5) 1 [0, 3, 4] [(0, .int .i64 64), (3, .slice A50 ((prF k).length + 1) c51), (4, .int .u64 (((k + 2) : Nat) : Int))] (by kernel_rfl) rfl ?_
        refine GL.k rfl hK26 (fun _ _ h => h) ?_
        refine G.region ?_
        refine GL.run (j := 3) 3 [0, 3, 4] [(0, .int .i64 64), (3, .slice A50 ((prF k).length + 1) c51), (4, .int .u64 (IntKind.u64.wrap ((((k + 2) : Nat) : Int) + 1)))] (by kernel_rfl) rfl ?_
        have e55 : (IntKind.u64.wrap ((((k + 2) : Nat) : Int) + 1)) = ((k + 1 + 2 : Nat) : Int) := (n_add' (a := k + 2) (b := 1) (by omega))
        refine GL.eq (M' := [(0, .int .i64 64), (3, .slice A50 ((prF k).length + 1) c51), (4, .int .u64 ((k + 1 + 2 : Nat) : Int))]) (by rw [e55]) ?_
        clear e55
        have H56 : Hp w [] [.row A50 ((prF k).length + 1) c51 31 1 (dg ((prF k) ++ [(k + 2)]))] w52 := H54.sub (List.Sublist.cons_cons _ (List.Sublist.cons _ (List.Sublist.slnil)))
        have hst : prF (k + 1) = prF k ++ [k + 2] := by rw [prF, if_pos (by rw [← hbw]; exact hb43)]
        have H57 : Hp w [] [.row A50 ((prF (k + 1)).length) c51 31 1 (dg (prF (k + 1)))] w52 := by rw [hst, List.length_append]; exact H56
        refine GL.fit (ts := [0, 3, 4]) (M' := [(0, .int .i64 64), (3, .slice A50 ((prF k).length + 1) c51), (4, .int .u64 ((k + 1 + 2 : Nat) : Int))]) (by kernel_rfl) ?_
        refine GL.eq (M' := [(0, .int .i64 64), (3, .slice A50 ((prF (k + 1)).length) c51), (4, .int .u64 ((((k + 1) + 2) : Nat) : Int))]) (by first | (rw [hst, List.length_append]; done) | (rw [hst, List.length_append]; rfl)) ?_
        exact GL.again ⟨(k + 1), A50, c51⟩ [0, 3, 4] rfl (by kernel_rfl) (by show 310 - (k + 1) < 310 - k; omega) ⟨by omega, H57⟩
    · skip
      have hb40f := of_decide_eq_true hb40
      refine G.yes rfl ?_
      refine G.skipK hK39 (fun _ _ h => h) ?_
      refine G.seqK fun K58 hK59 => ?_
      refine G.block ?_
      refine G.seqK fun K60 hK61 => ?_
      refine G.region ?_
      refine GL.sem (j := 1) (run_idxRd (P := Try.prog) (k := .i64) (t := 34) (A := A_) (len := (prF k).length) (cap := c_) (j := j) (by kernel_rfl) rfl (H35.rdRow 0 rfl) (by first | exact dg_length _ | rw [dg_length]; first | rfl | assumption | (symm; assumption) | (simp; done) | (rw [List.length_take]; omega) | omega) (by first | rfl | omega | (simp only [List.length_cons, List.length_nil, List.length_drop, List.length_take, List.length_append] <;> omega))) [0, 3, 4, 5, 15, 16, 17, 19] [(0, .int .i64 64), (3, .slice A_ ((prF k).length) c_), (4, .int .u64 (((k + 2) : Nat) : Int)), (5, .bool b), (15, .slice A_ ((prF k).length) c_), (16, .int .i64 (((prF k).length : Nat) : Int)), (17, .int .i64 (j : Int)), (19, .pointer (Option.map (fun x => Addr.add x j) A_))] (by kernel_rfl) (by kernel_rfl) rfl ?_
      obtain ⟨d62, hd63⟩ : ∃ d : Nat, ((prF k))[j]? = some d := ⟨_, List.getElem?_eq_getElem (by omega)⟩
      have hge := prF_ge k _ (List.mem_of_getElem? hd63)
      refine GL.sem (j := 2) (run_ldRd (P := Try.prog) (ty := 31) (A := A_) (j := j) (v := .int .u64 (d62 : Int)) (by kernel_rfl) (H35.rdRow 0 rfl) (dg_at hd63)) [0, 3, 4, 5, 15, 16, 17, 20] [(0, .int .i64 64), (3, .slice A_ ((prF k).length) c_), (4, .int .u64 (((k + 2) : Nat) : Int)), (5, .bool b), (15, .slice A_ ((prF k).length) c_), (16, .int .i64 (((prF k).length : Nat) : Int)), (17, .int .i64 (j : Int)), (20, .int .u64 (d62 : Int))] (by kernel_rfl) (by kernel_rfl) rfl ?_
      refine GL.run (j := 3) 1 [0, 3, 4, 5, 7, 15, 16, 17] [(0, .int .i64 64), (3, .slice A_ ((prF k).length) c_), (4, .int .u64 (((k + 2) : Nat) : Int)), (5, .bool b), (7, .int .u64 (d62 : Int)), (15, .slice A_ ((prF k).length) c_), (16, .int .i64 (((prF k).length : Nat) : Int)), (17, .int .i64 (j : Int))] (by kernel_rfl) rfl ?_
      refine GL.k rfl hK61 (fun _ _ h => h) ?_
      refine G.region ?_
      refine GL.run (j := 2) 2 [0, 3, 4, 7, 15, 16, 17, 22] [(0, .int .i64 64), (3, .slice A_ ((prF k).length) c_), (4, .int .u64 (((k + 2) : Nat) : Int)), (7, .int .u64 (d62 : Int)), (15, .slice A_ ((prF k).length) c_), (16, .int .i64 (((prF k).length : Nat) : Int)), (17, .int .i64 (j : Int)), (22, .bool b)] (by kernel_rfl) rfl ?_
      rcases (Bool.eq_false_or_eq_true b).symm with hb64 | hb64
      · skip
        refine GL.eq (M' := [(0, .int .i64 64), (3, .slice A_ ((prF k).length) c_), (4, .int .u64 (((k + 2) : Nat) : Int)), (7, .int .u64 (d62 : Int)), (15, .slice A_ ((prF k).length) c_), (16, .int .i64 (((prF k).length : Nat) : Int)), (17, .int .i64 (j : Int)), (22, .bool false)]) (by first | (rw [hb64]; done) | (rw [hb64]; rfl)) ?_
        refine GL.run (j := 8) 6 [0, 3, 4, 5, 15, 16, 17] [(0, .int .i64 64), (3, .slice A_ ((prF k).length) c_), (4, .int .u64 (((k + 2) : Nat) : Int)), (5, .bool false), (15, .slice A_ ((prF k).length) c_), (16, .int .i64 (((prF k).length : Nat) : Int)), (17, .int .i64 (j : Int))] (by kernel_rfl) rfl ?_
        refine GL.k rfl hK59 (fun _ _ h => h) ?_
        refine G.region ?_
        refine GL.run (j := 2) 2 [0, 3, 4, 5, 15, 16, 17] [(0, .int .i64 64), (3, .slice A_ ((prF k).length) c_), (4, .int .u64 (((k + 2) : Nat) : Int)), (5, .bool false), (15, .slice A_ ((prF k).length) c_), (16, .int .i64 (((prF k).length : Nat) : Int)), (17, .int .i64 (IntKind.i64.wrap ((j : Int) + 1)))] (by kernel_rfl) rfl ?_
        have e65 : (IntKind.i64.wrap ((j : Int) + 1)) = ((j + 1 : Nat) : Int) := by rw [in_i64 (by omega)]; omega
        refine GL.eq (M' := [(0, .int .i64 64), (3, .slice A_ ((prF k).length) c_), (4, .int .u64 (((k + 2) : Nat) : Int)), (5, .bool false), (15, .slice A_ ((prF k).length) c_), (16, .int .i64 (((prF k).length : Nat) : Int)), (17, .int .i64 ((j + 1 : Nat) : Int))]) (by rw [e65]) ?_
        clear e65
        have hstep : false = ((prF k).take (j + 1)).all (fun q => decide ((k + 2) % q ≠ 0)) := by
          rw [all_take hd63, ← hbj, hb64]
          rfl
        refine GL.fit (ts := [0, 3, 4, 5, 15, 16, 17]) (M' := [(0, .int .i64 64), (3, .slice A_ ((prF k).length) c_), (4, .int .u64 (((k + 2) : Nat) : Int)), (5, .bool false), (15, .slice A_ ((prF k).length) c_), (16, .int .i64 (((prF k).length : Nat) : Int)), (17, .int .i64 ((j + 1 : Nat) : Int))]) (by kernel_rfl) ?_
        refine GL.eq (M' := [(0, .int .i64 64), (3, .slice A_ ((prF k).length) c_), (4, .int .u64 (((k + 2) : Nat) : Int)), (5, .bool false), (15, .slice A_ ((prF k).length) c_), (16, .int .i64 (((prF k).length : Nat) : Int)), (17, .int .i64 (((j + 1) : Nat) : Int))]) (by rfl) ?_
        exact GL.again ⟨(j + 1), false⟩ [0, 3, 4, 5, 15, 16, 17] rfl (by kernel_rfl) (by show (prF k).length - (j + 1) < (prF k).length - j; omega) ⟨⟨by omega, hstep⟩, H35⟩
      · skip
        refine GL.eq (M' := [(0, .int .i64 64), (3, .slice A_ ((prF k).length) c_), (4, .int .u64 (((k + 2) : Nat) : Int)), (7, .int .u64 (d62 : Int)), (15, .slice A_ ((prF k).length) c_), (16, .int .i64 (((prF k).length : Nat) : Int)), (17, .int .i64 (j : Int)), (22, .bool true)]) (by first | (rw [hb64]; done) | (rw [hb64]; rfl)) ?_
        refine GL.run (j := 4) 2 [0, 3, 4, 15, 16, 17, 22, 23, 24] [(0, .int .i64 64), (3, .slice A_ ((prF k).length) c_), (4, .int .u64 (((k + 2) : Nat) : Int)), (15, .slice A_ ((prF k).length) c_), (16, .int .i64 (((prF k).length : Nat) : Int)), (17, .int .i64 (j : Int)), (22, .bool true), (23, .int .u64 (((k + 2) : Nat) : Int)), (24, .int .u64 (d62 : Int))] (by kernel_rfl) rfl ?_
        refine GL.sem (j := 5) (run_remN (P := Try.prog) (t := 31) (a := k + 2) (b := d62) (v := (k + 2) % d62) (by omega) rfl _) [0, 3, 4, 15, 16, 17, 22, 25] [(0, .int .i64 64), (3, .slice A_ ((prF k).length) c_), (4, .int .u64 (((k + 2) : Nat) : Int)), (15, .slice A_ ((prF k).length) c_), (16, .int .i64 (((prF k).length : Nat) : Int)), (17, .int .i64 (j : Int)), (22, .bool true), (25, .int .u64 ((((k + 2) % d62) : Nat) : Int))] (by kernel_rfl) (by kernel_rfl) rfl ?_
        refine GL.run (j := 8) 3 [0, 3, 4, 5, 15, 16, 17] [(0, .int .i64 64), (3, .slice A_ ((prF k).length) c_), (4, .int .u64 (((k + 2) : Nat) : Int)), (5, .bool (((((k + 2) % d62) : Nat) : Int) != 0)), (15, .slice A_ ((prF k).length) c_), (16, .int .i64 (((prF k).length : Nat) : Int)), (17, .int .i64 (j : Int))] (by kernel_rfl) rfl ?_
        refine GL.k rfl hK59 (fun _ _ h => h) ?_
        refine G.region ?_
        refine GL.run (j := 2) 2 [0, 3, 4, 5, 15, 16, 17] [(0, .int .i64 64), (3, .slice A_ ((prF k).length) c_), (4, .int .u64 (((k + 2) : Nat) : Int)), (5, .bool (((((k + 2) % d62) : Nat) : Int) != 0)), (15, .slice A_ ((prF k).length) c_), (16, .int .i64 (((prF k).length : Nat) : Int)), (17, .int .i64 (IntKind.i64.wrap ((j : Int) + 1)))] (by kernel_rfl) rfl ?_
        have e66 : (IntKind.i64.wrap ((j : Int) + 1)) = ((j + 1 : Nat) : Int) := by rw [in_i64 (by omega)]; omega
        refine GL.eq (M' := [(0, .int .i64 64), (3, .slice A_ ((prF k).length) c_), (4, .int .u64 (((k + 2) : Nat) : Int)), (5, .bool (((((k + 2) % d62) : Nat) : Int) != 0)), (15, .slice A_ ((prF k).length) c_), (16, .int .i64 (((prF k).length : Nat) : Int)), (17, .int .i64 ((j + 1 : Nat) : Int))]) (by rw [e66]) ?_
        clear e66
        have hstep : (((((k + 2) % d62) : Nat) : Int) != 0) = ((prF k).take (j + 1)).all (fun q => decide ((k + 2) % q ≠ 0)) := by
          rw [all_take hd63, ← hbj, hb64]
          rw [Bool.true_and, Bool.eq_iff_iff, bne_iff_ne, decide_eq_true_iff]
          omega
        refine GL.fit (ts := [0, 3, 4, 5, 15, 16, 17]) (M' := [(0, .int .i64 64), (3, .slice A_ ((prF k).length) c_), (4, .int .u64 (((k + 2) : Nat) : Int)), (5, .bool (((((k + 2) % d62) : Nat) : Int) != 0)), (15, .slice A_ ((prF k).length) c_), (16, .int .i64 (((prF k).length : Nat) : Int)), (17, .int .i64 ((j + 1 : Nat) : Int))]) (by kernel_rfl) ?_
        refine GL.eq (M' := [(0, .int .i64 64), (3, .slice A_ ((prF k).length) c_), (4, .int .u64 (((k + 2) : Nat) : Int)), (5, .bool (((((k + 2) % d62) : Nat) : Int) != 0)), (15, .slice A_ ((prF k).length) c_), (16, .int .i64 (((prF k).length : Nat) : Int)), (17, .int .i64 (((j + 1) : Nat) : Int))]) (by rfl) ?_
        exact GL.again ⟨(j + 1), (((((k + 2) % d62) : Nat) : Int) != 0)⟩ [0, 3, 4, 5, 15, 16, 17] rfl (by kernel_rfl) (by show (prF k).length - (j + 1) < (prF k).length - j; omega) ⟨⟨by omega, hstep⟩, H35⟩
theorem TurnR2_calls (x : Nat) (hx : x < W32) (w : World) : Calls Try.prog 60 #[.int .u32 (x : Int), .int .i64 2] w fun e w' => e = .returned (.int .u32 ((rt x 2 : Nat) : Int)) ∧ Hp w [] [] w' := by
  refine calls_G (args := [.int .u32 (x : Int), .int .i64 2]) Try.func60 rfl Try.ntmps60 rfl ?_
  intro Q0 hRet hNor hPan
  have H := Hp.start w
  have H : Hp w [] [] w := H
  refine G.seqK fun K1 hK2 => ?_
  refine G.region ?_
  refine GL.run (j := 1) 1 [0, 1] [(0, .int .u32 (x : Int)), (1, .int .i64 2)] (by kernel_rfl) rfl ?_
  refine GL.k rfl hK2 (fun _ _ h => h) ?_
  refine G.seqK fun K3 hK4 => ?_
  refine G.draw H (by kernel_rfl) (by kernel_rfl) ?_
  refine GQ.run (j := 9) 9 [4] [(4, .int .u32 (Go.bits .or .u32 (Int.fdiv (x : Int) (2 ^ 2)) (IntKind.u32.wrap ((x : Int) * 2 ^ 30))))] (by kernel_rfl) rfl ?_
  have e5 : (Int.fdiv (x : Int) (2 ^ 2)) = ((x / 2 ^ 2 : Nat) : Int) := n_shr x 2
  have e6 : (IntKind.u32.wrap ((x : Int) * 2 ^ 30)) = ((x * 2 ^ 30 % W32 : Nat) : Int) := w_shl x 30
  have e7 : (Go.bits .or .u32 ((x / 2 ^ 2 : Nat) : Int) ((x * 2 ^ 30 % W32 : Nat) : Int)) = ((rt x 2 : Nat) : Int) := (w_or (Nat.lt_of_le_of_lt (Nat.div_le_self _ _) hx) (Nat.mod_lt _ (by decide))).trans (by rw [Nat.or_comm]; rfl)
  refine GQ.eq (M' := [(4, .int .u32 ((rt x 2 : Nat) : Int))]) (by rw [e5, e6, e7]) ?_
  clear e5 e6 e7
  refine GQ.k rfl hK4 (fun _ _ h => h) (fun w8 H9 => ?_)
  refine G.ret ?_
  intro F_ hF_ hM_
  refine hRet _ _ (bodyPost_1 rfl (RV.tmp rfl) ?_ F_ hF_ hM_)
  exact ⟨rfl, H9⟩
theorem TurnR6_calls (x : Nat) (hx : x < W32) (w : World) : Calls Try.prog 60 #[.int .u32 (x : Int), .int .i64 6] w fun e w' => e = .returned (.int .u32 ((rt x 6 : Nat) : Int)) ∧ Hp w [] [] w' := by
  refine calls_G (args := [.int .u32 (x : Int), .int .i64 6]) Try.func60 rfl Try.ntmps60 rfl ?_
  intro Q0 hRet hNor hPan
  have H := Hp.start w
  have H : Hp w [] [] w := H
  refine G.seqK fun K1 hK2 => ?_
  refine G.region ?_
  refine GL.run (j := 1) 1 [0, 1] [(0, .int .u32 (x : Int)), (1, .int .i64 6)] (by kernel_rfl) rfl ?_
  refine GL.k rfl hK2 (fun _ _ h => h) ?_
  refine G.seqK fun K3 hK4 => ?_
  refine G.draw H (by kernel_rfl) (by kernel_rfl) ?_
  refine GQ.run (j := 9) 9 [4] [(4, .int .u32 (Go.bits .or .u32 (Int.fdiv (x : Int) (2 ^ 6)) (IntKind.u32.wrap ((x : Int) * 2 ^ 26))))] (by kernel_rfl) rfl ?_
  have e5 : (Int.fdiv (x : Int) (2 ^ 6)) = ((x / 2 ^ 6 : Nat) : Int) := n_shr x 6
  have e6 : (IntKind.u32.wrap ((x : Int) * 2 ^ 26)) = ((x * 2 ^ 26 % W32 : Nat) : Int) := w_shl x 26
  have e7 : (Go.bits .or .u32 ((x / 2 ^ 6 : Nat) : Int) ((x * 2 ^ 26 % W32 : Nat) : Int)) = ((rt x 6 : Nat) : Int) := (w_or (Nat.lt_of_le_of_lt (Nat.div_le_self _ _) hx) (Nat.mod_lt _ (by decide))).trans (by rw [Nat.or_comm]; rfl)
  refine GQ.eq (M' := [(4, .int .u32 ((rt x 6 : Nat) : Int))]) (by rw [e5, e6, e7]) ?_
  clear e5 e6 e7
  refine GQ.k rfl hK4 (fun _ _ h => h) (fun w8 H9 => ?_)
  refine G.ret ?_
  intro F_ hF_ hM_
  refine hRet _ _ (bodyPost_1 rfl (RV.tmp rfl) ?_ F_ hF_ hM_)
  exact ⟨rfl, H9⟩
theorem TurnR7_calls (x : Nat) (hx : x < W32) (w : World) : Calls Try.prog 60 #[.int .u32 (x : Int), .int .i64 7] w fun e w' => e = .returned (.int .u32 ((rt x 7 : Nat) : Int)) ∧ Hp w [] [] w' := by
  refine calls_G (args := [.int .u32 (x : Int), .int .i64 7]) Try.func60 rfl Try.ntmps60 rfl ?_
  intro Q0 hRet hNor hPan
  have H := Hp.start w
  have H : Hp w [] [] w := H
  refine G.seqK fun K1 hK2 => ?_
  refine G.region ?_
  refine GL.run (j := 1) 1 [0, 1] [(0, .int .u32 (x : Int)), (1, .int .i64 7)] (by kernel_rfl) rfl ?_
  refine GL.k rfl hK2 (fun _ _ h => h) ?_
  refine G.seqK fun K3 hK4 => ?_
  refine G.draw H (by kernel_rfl) (by kernel_rfl) ?_
  refine GQ.run (j := 9) 9 [4] [(4, .int .u32 (Go.bits .or .u32 (Int.fdiv (x : Int) (2 ^ 7)) (IntKind.u32.wrap ((x : Int) * 2 ^ 25))))] (by kernel_rfl) rfl ?_
  have e5 : (Int.fdiv (x : Int) (2 ^ 7)) = ((x / 2 ^ 7 : Nat) : Int) := n_shr x 7
  have e6 : (IntKind.u32.wrap ((x : Int) * 2 ^ 25)) = ((x * 2 ^ 25 % W32 : Nat) : Int) := w_shl x 25
  have e7 : (Go.bits .or .u32 ((x / 2 ^ 7 : Nat) : Int) ((x * 2 ^ 25 % W32 : Nat) : Int)) = ((rt x 7 : Nat) : Int) := (w_or (Nat.lt_of_le_of_lt (Nat.div_le_self _ _) hx) (Nat.mod_lt _ (by decide))).trans (by rw [Nat.or_comm]; rfl)
  refine GQ.eq (M' := [(4, .int .u32 ((rt x 7 : Nat) : Int))]) (by rw [e5, e6, e7]) ?_
  clear e5 e6 e7
  refine GQ.k rfl hK4 (fun _ _ h => h) (fun w8 H9 => ?_)
  refine G.ret ?_
  intro F_ hF_ hM_
  refine hRet _ _ (bodyPost_1 rfl (RV.tmp rfl) ?_ F_ hF_ hM_)
  exact ⟨rfl, H9⟩
theorem TurnR11_calls (x : Nat) (hx : x < W32) (w : World) : Calls Try.prog 60 #[.int .u32 (x : Int), .int .i64 11] w fun e w' => e = .returned (.int .u32 ((rt x 11 : Nat) : Int)) ∧ Hp w [] [] w' := by
  refine calls_G (args := [.int .u32 (x : Int), .int .i64 11]) Try.func60 rfl Try.ntmps60 rfl ?_
  intro Q0 hRet hNor hPan
  have H := Hp.start w
  have H : Hp w [] [] w := H
  refine G.seqK fun K1 hK2 => ?_
  refine G.region ?_
  refine GL.run (j := 1) 1 [0, 1] [(0, .int .u32 (x : Int)), (1, .int .i64 11)] (by kernel_rfl) rfl ?_
  refine GL.k rfl hK2 (fun _ _ h => h) ?_
  refine G.seqK fun K3 hK4 => ?_
  refine G.draw H (by kernel_rfl) (by kernel_rfl) ?_
  refine GQ.run (j := 9) 9 [4] [(4, .int .u32 (Go.bits .or .u32 (Int.fdiv (x : Int) (2 ^ 11)) (IntKind.u32.wrap ((x : Int) * 2 ^ 21))))] (by kernel_rfl) rfl ?_
  have e5 : (Int.fdiv (x : Int) (2 ^ 11)) = ((x / 2 ^ 11 : Nat) : Int) := n_shr x 11
  have e6 : (IntKind.u32.wrap ((x : Int) * 2 ^ 21)) = ((x * 2 ^ 21 % W32 : Nat) : Int) := w_shl x 21
  have e7 : (Go.bits .or .u32 ((x / 2 ^ 11 : Nat) : Int) ((x * 2 ^ 21 % W32 : Nat) : Int)) = ((rt x 11 : Nat) : Int) := (w_or (Nat.lt_of_le_of_lt (Nat.div_le_self _ _) hx) (Nat.mod_lt _ (by decide))).trans (by rw [Nat.or_comm]; rfl)
  refine GQ.eq (M' := [(4, .int .u32 ((rt x 11 : Nat) : Int))]) (by rw [e5, e6, e7]) ?_
  clear e5 e6 e7
  refine GQ.k rfl hK4 (fun _ _ h => h) (fun w8 H9 => ?_)
  refine G.ret ?_
  intro F_ hF_ hM_
  refine hRet _ _ (bodyPost_1 rfl (RV.tmp rfl) ?_ F_ hF_ hM_)
  exact ⟨rfl, H9⟩
theorem TurnR13_calls (x : Nat) (hx : x < W32) (w : World) : Calls Try.prog 60 #[.int .u32 (x : Int), .int .i64 13] w fun e w' => e = .returned (.int .u32 ((rt x 13 : Nat) : Int)) ∧ Hp w [] [] w' := by
  refine calls_G (args := [.int .u32 (x : Int), .int .i64 13]) Try.func60 rfl Try.ntmps60 rfl ?_
  intro Q0 hRet hNor hPan
  have H := Hp.start w
  have H : Hp w [] [] w := H
  refine G.seqK fun K1 hK2 => ?_
  refine G.region ?_
  refine GL.run (j := 1) 1 [0, 1] [(0, .int .u32 (x : Int)), (1, .int .i64 13)] (by kernel_rfl) rfl ?_
  refine GL.k rfl hK2 (fun _ _ h => h) ?_
  refine G.seqK fun K3 hK4 => ?_
  refine G.draw H (by kernel_rfl) (by kernel_rfl) ?_
  refine GQ.run (j := 9) 9 [4] [(4, .int .u32 (Go.bits .or .u32 (Int.fdiv (x : Int) (2 ^ 13)) (IntKind.u32.wrap ((x : Int) * 2 ^ 19))))] (by kernel_rfl) rfl ?_
  have e5 : (Int.fdiv (x : Int) (2 ^ 13)) = ((x / 2 ^ 13 : Nat) : Int) := n_shr x 13
  have e6 : (IntKind.u32.wrap ((x : Int) * 2 ^ 19)) = ((x * 2 ^ 19 % W32 : Nat) : Int) := w_shl x 19
  have e7 : (Go.bits .or .u32 ((x / 2 ^ 13 : Nat) : Int) ((x * 2 ^ 19 % W32 : Nat) : Int)) = ((rt x 13 : Nat) : Int) := (w_or (Nat.lt_of_le_of_lt (Nat.div_le_self _ _) hx) (Nat.mod_lt _ (by decide))).trans (by rw [Nat.or_comm]; rfl)
  refine GQ.eq (M' := [(4, .int .u32 ((rt x 13 : Nat) : Int))]) (by rw [e5, e6, e7]) ?_
  clear e5 e6 e7
  refine GQ.k rfl hK4 (fun _ _ h => h) (fun w8 H9 => ?_)
  refine G.ret ?_
  intro F_ hF_ hM_
  refine hRet _ _ (bodyPost_1 rfl (RV.tmp rfl) ?_ F_ hF_ hM_)
  exact ⟨rfl, H9⟩
theorem TurnR17_calls (x : Nat) (hx : x < W32) (w : World) : Calls Try.prog 60 #[.int .u32 (x : Int), .int .i64 17] w fun e w' => e = .returned (.int .u32 ((rt x 17 : Nat) : Int)) ∧ Hp w [] [] w' := by
  refine calls_G (args := [.int .u32 (x : Int), .int .i64 17]) Try.func60 rfl Try.ntmps60 rfl ?_
  intro Q0 hRet hNor hPan
  have H := Hp.start w
  have H : Hp w [] [] w := H
  refine G.seqK fun K1 hK2 => ?_
  refine G.region ?_
  refine GL.run (j := 1) 1 [0, 1] [(0, .int .u32 (x : Int)), (1, .int .i64 17)] (by kernel_rfl) rfl ?_
  refine GL.k rfl hK2 (fun _ _ h => h) ?_
  refine G.seqK fun K3 hK4 => ?_
  refine G.draw H (by kernel_rfl) (by kernel_rfl) ?_
  refine GQ.run (j := 9) 9 [4] [(4, .int .u32 (Go.bits .or .u32 (Int.fdiv (x : Int) (2 ^ 17)) (IntKind.u32.wrap ((x : Int) * 2 ^ 15))))] (by kernel_rfl) rfl ?_
  have e5 : (Int.fdiv (x : Int) (2 ^ 17)) = ((x / 2 ^ 17 : Nat) : Int) := n_shr x 17
  have e6 : (IntKind.u32.wrap ((x : Int) * 2 ^ 15)) = ((x * 2 ^ 15 % W32 : Nat) : Int) := w_shl x 15
  have e7 : (Go.bits .or .u32 ((x / 2 ^ 17 : Nat) : Int) ((x * 2 ^ 15 % W32 : Nat) : Int)) = ((rt x 17 : Nat) : Int) := (w_or (Nat.lt_of_le_of_lt (Nat.div_le_self _ _) hx) (Nat.mod_lt _ (by decide))).trans (by rw [Nat.or_comm]; rfl)
  refine GQ.eq (M' := [(4, .int .u32 ((rt x 17 : Nat) : Int))]) (by rw [e5, e6, e7]) ?_
  clear e5 e6 e7
  refine GQ.k rfl hK4 (fun _ _ h => h) (fun w8 H9 => ?_)
  refine G.ret ?_
  intro F_ hF_ hM_
  refine hRet _ _ (bodyPost_1 rfl (RV.tmp rfl) ?_ F_ hF_ hM_)
  exact ⟨rfl, H9⟩
theorem TurnR18_calls (x : Nat) (hx : x < W32) (w : World) : Calls Try.prog 60 #[.int .u32 (x : Int), .int .i64 18] w fun e w' => e = .returned (.int .u32 ((rt x 18 : Nat) : Int)) ∧ Hp w [] [] w' := by
  refine calls_G (args := [.int .u32 (x : Int), .int .i64 18]) Try.func60 rfl Try.ntmps60 rfl ?_
  intro Q0 hRet hNor hPan
  have H := Hp.start w
  have H : Hp w [] [] w := H
  refine G.seqK fun K1 hK2 => ?_
  refine G.region ?_
  refine GL.run (j := 1) 1 [0, 1] [(0, .int .u32 (x : Int)), (1, .int .i64 18)] (by kernel_rfl) rfl ?_
  refine GL.k rfl hK2 (fun _ _ h => h) ?_
  refine G.seqK fun K3 hK4 => ?_
  refine G.draw H (by kernel_rfl) (by kernel_rfl) ?_
  refine GQ.run (j := 9) 9 [4] [(4, .int .u32 (Go.bits .or .u32 (Int.fdiv (x : Int) (2 ^ 18)) (IntKind.u32.wrap ((x : Int) * 2 ^ 14))))] (by kernel_rfl) rfl ?_
  have e5 : (Int.fdiv (x : Int) (2 ^ 18)) = ((x / 2 ^ 18 : Nat) : Int) := n_shr x 18
  have e6 : (IntKind.u32.wrap ((x : Int) * 2 ^ 14)) = ((x * 2 ^ 14 % W32 : Nat) : Int) := w_shl x 14
  have e7 : (Go.bits .or .u32 ((x / 2 ^ 18 : Nat) : Int) ((x * 2 ^ 14 % W32 : Nat) : Int)) = ((rt x 18 : Nat) : Int) := (w_or (Nat.lt_of_le_of_lt (Nat.div_le_self _ _) hx) (Nat.mod_lt _ (by decide))).trans (by rw [Nat.or_comm]; rfl)
  refine GQ.eq (M' := [(4, .int .u32 ((rt x 18 : Nat) : Int))]) (by rw [e5, e6, e7]) ?_
  clear e5 e6 e7
  refine GQ.k rfl hK4 (fun _ _ h => h) (fun w8 H9 => ?_)
  refine G.ret ?_
  intro F_ hF_ hM_
  refine hRet _ _ (bodyPost_1 rfl (RV.tmp rfl) ?_ F_ hF_ hM_)
  exact ⟨rfl, H9⟩
theorem TurnR19_calls (x : Nat) (hx : x < W32) (w : World) : Calls Try.prog 60 #[.int .u32 (x : Int), .int .i64 19] w fun e w' => e = .returned (.int .u32 ((rt x 19 : Nat) : Int)) ∧ Hp w [] [] w' := by
  refine calls_G (args := [.int .u32 (x : Int), .int .i64 19]) Try.func60 rfl Try.ntmps60 rfl ?_
  intro Q0 hRet hNor hPan
  have H := Hp.start w
  have H : Hp w [] [] w := H
  refine G.seqK fun K1 hK2 => ?_
  refine G.region ?_
  refine GL.run (j := 1) 1 [0, 1] [(0, .int .u32 (x : Int)), (1, .int .i64 19)] (by kernel_rfl) rfl ?_
  refine GL.k rfl hK2 (fun _ _ h => h) ?_
  refine G.seqK fun K3 hK4 => ?_
  refine G.draw H (by kernel_rfl) (by kernel_rfl) ?_
  refine GQ.run (j := 9) 9 [4] [(4, .int .u32 (Go.bits .or .u32 (Int.fdiv (x : Int) (2 ^ 19)) (IntKind.u32.wrap ((x : Int) * 2 ^ 13))))] (by kernel_rfl) rfl ?_
  have e5 : (Int.fdiv (x : Int) (2 ^ 19)) = ((x / 2 ^ 19 : Nat) : Int) := n_shr x 19
  have e6 : (IntKind.u32.wrap ((x : Int) * 2 ^ 13)) = ((x * 2 ^ 13 % W32 : Nat) : Int) := w_shl x 13
  have e7 : (Go.bits .or .u32 ((x / 2 ^ 19 : Nat) : Int) ((x * 2 ^ 13 % W32 : Nat) : Int)) = ((rt x 19 : Nat) : Int) := (w_or (Nat.lt_of_le_of_lt (Nat.div_le_self _ _) hx) (Nat.mod_lt _ (by decide))).trans (by rw [Nat.or_comm]; rfl)
  refine GQ.eq (M' := [(4, .int .u32 ((rt x 19 : Nat) : Int))]) (by rw [e5, e6, e7]) ?_
  clear e5 e6 e7
  refine GQ.k rfl hK4 (fun _ _ h => h) (fun w8 H9 => ?_)
  refine G.ret ?_
  intro F_ hF_ hM_
  refine hRet _ _ (bodyPost_1 rfl (RV.tmp rfl) ?_ F_ hF_ hM_)
  exact ⟨rfl, H9⟩
theorem TurnR22_calls (x : Nat) (hx : x < W32) (w : World) : Calls Try.prog 60 #[.int .u32 (x : Int), .int .i64 22] w fun e w' => e = .returned (.int .u32 ((rt x 22 : Nat) : Int)) ∧ Hp w [] [] w' := by
  refine calls_G (args := [.int .u32 (x : Int), .int .i64 22]) Try.func60 rfl Try.ntmps60 rfl ?_
  intro Q0 hRet hNor hPan
  have H := Hp.start w
  have H : Hp w [] [] w := H
  refine G.seqK fun K1 hK2 => ?_
  refine G.region ?_
  refine GL.run (j := 1) 1 [0, 1] [(0, .int .u32 (x : Int)), (1, .int .i64 22)] (by kernel_rfl) rfl ?_
  refine GL.k rfl hK2 (fun _ _ h => h) ?_
  refine G.seqK fun K3 hK4 => ?_
  refine G.draw H (by kernel_rfl) (by kernel_rfl) ?_
  refine GQ.run (j := 9) 9 [4] [(4, .int .u32 (Go.bits .or .u32 (Int.fdiv (x : Int) (2 ^ 22)) (IntKind.u32.wrap ((x : Int) * 2 ^ 10))))] (by kernel_rfl) rfl ?_
  have e5 : (Int.fdiv (x : Int) (2 ^ 22)) = ((x / 2 ^ 22 : Nat) : Int) := n_shr x 22
  have e6 : (IntKind.u32.wrap ((x : Int) * 2 ^ 10)) = ((x * 2 ^ 10 % W32 : Nat) : Int) := w_shl x 10
  have e7 : (Go.bits .or .u32 ((x / 2 ^ 22 : Nat) : Int) ((x * 2 ^ 10 % W32 : Nat) : Int)) = ((rt x 22 : Nat) : Int) := (w_or (Nat.lt_of_le_of_lt (Nat.div_le_self _ _) hx) (Nat.mod_lt _ (by decide))).trans (by rw [Nat.or_comm]; rfl)
  refine GQ.eq (M' := [(4, .int .u32 ((rt x 22 : Nat) : Int))]) (by rw [e5, e6, e7]) ?_
  clear e5 e6 e7
  refine GQ.k rfl hK4 (fun _ _ h => h) (fun w8 H9 => ?_)
  refine G.ret ?_
  intro F_ hF_ hM_
  refine hRet _ _ (bodyPost_1 rfl (RV.tmp rfl) ?_ F_ hF_ hM_)
  exact ⟨rfl, H9⟩
theorem TurnR25_calls (x : Nat) (hx : x < W32) (w : World) : Calls Try.prog 60 #[.int .u32 (x : Int), .int .i64 25] w fun e w' => e = .returned (.int .u32 ((rt x 25 : Nat) : Int)) ∧ Hp w [] [] w' := by
  refine calls_G (args := [.int .u32 (x : Int), .int .i64 25]) Try.func60 rfl Try.ntmps60 rfl ?_
  intro Q0 hRet hNor hPan
  have H := Hp.start w
  have H : Hp w [] [] w := H
  refine G.seqK fun K1 hK2 => ?_
  refine G.region ?_
  refine GL.run (j := 1) 1 [0, 1] [(0, .int .u32 (x : Int)), (1, .int .i64 25)] (by kernel_rfl) rfl ?_
  refine GL.k rfl hK2 (fun _ _ h => h) ?_
  refine G.seqK fun K3 hK4 => ?_
  refine G.draw H (by kernel_rfl) (by kernel_rfl) ?_
  refine GQ.run (j := 9) 9 [4] [(4, .int .u32 (Go.bits .or .u32 (Int.fdiv (x : Int) (2 ^ 25)) (IntKind.u32.wrap ((x : Int) * 2 ^ 7))))] (by kernel_rfl) rfl ?_
  have e5 : (Int.fdiv (x : Int) (2 ^ 25)) = ((x / 2 ^ 25 : Nat) : Int) := n_shr x 25
  have e6 : (IntKind.u32.wrap ((x : Int) * 2 ^ 7)) = ((x * 2 ^ 7 % W32 : Nat) : Int) := w_shl x 7
  have e7 : (Go.bits .or .u32 ((x / 2 ^ 25 : Nat) : Int) ((x * 2 ^ 7 % W32 : Nat) : Int)) = ((rt x 25 : Nat) : Int) := (w_or (Nat.lt_of_le_of_lt (Nat.div_le_self _ _) hx) (Nat.mod_lt _ (by decide))).trans (by rw [Nat.or_comm]; rfl)
  refine GQ.eq (M' := [(4, .int .u32 ((rt x 25 : Nat) : Int))]) (by rw [e5, e6, e7]) ?_
  clear e5 e6 e7
  refine GQ.k rfl hK4 (fun _ _ h => h) (fun w8 H9 => ?_)
  refine G.ret ?_
  intro F_ hF_ hM_
  refine hRet _ _ (bodyPost_1 rfl (RV.tmp rfl) ?_ F_ hF_ hM_)
  exact ⟨rfl, H9⟩
end Go.Proofs.Ytdepaaphgfapjaa
namespace Go.Proofs.Ytdepaaphgfapjaa
open Go.RowKit
section
variable {P : Program} {n : Nat} {M : FM} {w : World}
theorem G.seqJ {a b : Code} {Q : Exit → Act → World → Prop} {X : Type} (Mx : X → FM) (J : X → World → Prop)
    (h : (∀ x w', J x w' → G P b Q n (Mx x) w') → ∀ K : Act → World → Prop, (∀ a w, b.wp P Q a w → K a w) → G P a (Exit.then K Q) n M w)
    (hb : ∀ x w', J x w' → G P b Q n (Mx x) w') : G P (.seq a b) Q n M w := G.seqK fun K hK => h hb K hK
end
end Go.Proofs.Ytdepaaphgfapjaa
