/- The chapter's example. -/
import Derived.Test.YtdepaaphgfapjaaHdrB
import Derived.Test.YtdepaaphgfapjaaWideF
namespace Go.Proofs.Ytdepaaphgfapjaa
open Go.RowKit
theorem first_root : parT ([52, 97, 53, 101, 49, 101, 52, 98, 97, 97, 98, 56, 57, 102, 51, 97, 51, 50, 53, 49, 56, 97, 56, 56, 99, 51, 49, 98, 99, 56, 55, 102, 54, 49, 56, 102, 55, 54, 54, 55, 51, 101, 50, 99, 99, 55, 55, 97, 98, 50, 49, 50, 55, 98, 55, 97, 102, 100, 101, 100, 97, 51, 51, 98] : List UInt8) = ([59, 163, 237, 253, 122, 123, 18, 178, 122, 199, 44, 62, 103, 118, 143, 97, 127, 200, 27, 195, 136, 138, 81, 50, 58, 159, 184, 170, 75, 30, 94, 74] : List UInt8) ∧ parE ([52, 97, 53, 101, 49, 101, 52, 98, 97, 97, 98, 56, 57, 102, 51, 97, 51, 50, 53, 49, 56, 97, 56, 56, 99, 51, 49, 98, 99, 56, 55, 102, 54, 49, 56, 102, 55, 54, 54, 55, 51, 101, 50, 99, 99, 55, 55, 97, 98, 50, 49, 50, 55, 98, 55, 97, 102, 100, 101, 100, 97, 51, 51, 98] : List UInt8) = 0 := ⟨by kernel_rfl, by kernel_rfl⟩
theorem first_hash : sha (sha (hdB 1 ([0, 0, 0, 0, 0, 0, 0, 0, 0, 0, 0, 0, 0, 0, 0, 0, 0, 0, 0, 0, 0, 0, 0, 0, 0, 0, 0, 0, 0, 0, 0, 0] : List UInt8) ([59, 163, 237, 253, 122, 123, 18, 178, 122, 199, 44, 62, 103, 118, 143, 97, 127, 200, 27, 195, 136, 138, 81, 50, 58, 159, 184, 170, 75, 30, 94, 74] : List UInt8) 1231006505 486604799 2083236893)) = ([111, 226, 140, 10, 182, 241, 179, 114, 193, 166, 162, 70, 174, 99, 247, 79, 147, 30, 131, 101, 225, 90, 8, 156, 104, 214, 25, 0, 0, 0, 0, 0] : List UInt8) := by
  rw [show hdB 1 ([0, 0, 0, 0, 0, 0, 0, 0, 0, 0, 0, 0, 0, 0, 0, 0, 0, 0, 0, 0, 0, 0, 0, 0, 0, 0, 0, 0, 0, 0, 0, 0] : List UInt8) ([59, 163, 237, 253, 122, 123, 18, 178, 122, 199, 44, 62, 103, 118, 143, 97, 127, 200, 27, 195, 136, 138, 81, 50, 58, 159, 184, 170, 75, 30, 94, 74] : List UInt8) 1231006505 486604799 2083236893 = ([1, 0, 0, 0, 0, 0, 0, 0, 0, 0, 0, 0, 0, 0, 0, 0, 0, 0, 0, 0, 0, 0, 0, 0, 0, 0, 0, 0, 0, 0, 0, 0, 0, 0, 0, 0, 59, 163, 237, 253, 122, 123, 18, 178, 122, 199, 44, 62, 103, 118, 143, 97, 127, 200, 27, 195, 136, 138, 81, 50, 58, 159, 184, 170, 75, 30, 94, 74, 41, 171, 95, 73, 255, 255, 0, 29, 29, 172, 43, 124] : List UInt8) by kernel_rfl, show sha ([1, 0, 0, 0, 0, 0, 0, 0, 0, 0, 0, 0, 0, 0, 0, 0, 0, 0, 0, 0, 0, 0, 0, 0, 0, 0, 0, 0, 0, 0, 0, 0, 0, 0, 0, 0, 59, 163, 237, 253, 122, 123, 18, 178, 122, 199, 44, 62, 103, 118, 143, 97, 127, 200, 27, 195, 136, 138, 81, 50, 58, 159, 184, 170, 75, 30, 94, 74, 41, 171, 95, 73, 255, 255, 0, 29, 29, 172, 43, 124] : List UInt8) = ([175, 66, 3, 30, 128, 95, 244, 147, 160, 115, 65, 226, 247, 79, 245, 129, 73, 210, 42, 185, 186, 25, 246, 19, 67, 226, 200, 108, 113, 197, 214, 109] : List UInt8) by kernel_rfl]
  kernel_rfl
theorem first_text : hexT ([111, 226, 140, 10, 182, 241, 179, 114, 193, 166, 162, 70, 174, 99, 247, 79, 147, 30, 131, 101, 225, 90, 8, 156, 104, 214, 25, 0, 0, 0, 0, 0] : List UInt8) = ([48, 48, 48, 48, 48, 48, 48, 48, 48, 48, 49, 57, 100, 54, 54, 56, 57, 99, 48, 56, 53, 97, 101, 49, 54, 53, 56, 51, 49, 101, 57, 51, 52, 102, 102, 55, 54, 51, 97, 101, 52, 54, 97, 50, 97, 54, 99, 49, 55, 50, 98, 51, 102, 49, 98, 54, 48, 97, 56, 99, 101, 50, 54, 102] : List UInt8) := by kernel_rfl
theorem run_strHead {P : Program} {t : TypeId} {k : IntKind} {s : List UInt8} {h : Nat} {r : List UInt8} (ht : isStr P t = true) (hh : h ≤ s.length) (hr : s.take h = r) (w : World) :
    (Instr.sliceAt t (.string (strOf s)) none (some (.int k (h : Int))) none).run P w = .ok (.string (strOf r)) w := by
  rw [run_sliceAt_string (h := isStr_spec ht), run_slice_string_h (ht := isStr_spec ht) (h0 := by omega) (h2 := by rw [strOf_size]; omega), ← hr]
  rw [show (strOf s).extract 0 (h : Int).toNat = strOf ((s.drop 0).take (h - 0)) from ByteArray.extract_mk s _ _]
  rfl
theorem first_calls (w : World) : Calls Try.prog 20 #[] w fun e w' => e = .returned (.agg (hdC 1 ([0, 0, 0, 0, 0, 0, 0, 0, 0, 0, 0, 0, 0, 0, 0, 0, 0, 0, 0, 0, 0, 0, 0, 0, 0, 0, 0, 0, 0, 0, 0, 0] : List UInt8) ([59, 163, 237, 253, 122, 123, 18, 178, 122, 199, 44, 62, 103, 118, 143, 97, 127, 200, 27, 195, 136, 138, 81, 50, 58, 159, 184, 170, 75, 30, 94, 74] : List UInt8) 1231006505 486604799 2083236893).toArray) ∧ Hp w [] [] w' := by
  refine calls_G (args := []) Try.func20 rfl Try.ntmps20 rfl ?_
  intro Q0 hRet hNor hPan
  have H := Hp.start w
  have H : Hp w [] [] w := H
  refine G.seqK fun K1 hK2 => ?_
  refine G.region ?_
  obtain ⟨p3, w4, r5, H6⟩ := H.alloc (P := Try.prog) 26 [.int .u32 0, .int .u8 0, .int .u8 0, .int .u8 0, .int .u8 0, .int .u8 0, .int .u8 0, .int .u8 0, .int .u8 0, .int .u8 0, .int .u8 0, .int .u8 0, .int .u8 0, .int .u8 0, .int .u8 0, .int .u8 0, .int .u8 0, .int .u8 0, .int .u8 0, .int .u8 0, .int .u8 0, .int .u8 0, .int .u8 0, .int .u8 0, .int .u8 0, .int .u8 0, .int .u8 0, .int .u8 0, .int .u8 0, .int .u8 0, .int .u8 0, .int .u8 0, .int .u8 0, .int .u8 0, .int .u8 0, .int .u8 0, .int .u8 0, .int .u8 0, .int .u8 0, .int .u8 0, .int .u8 0, .int .u8 0, .int .u8 0, .int .u8 0, .int .u8 0, .int .u8 0, .int .u8 0, .int .u8 0, .int .u8 0, .int .u8 0, .int .u8 0, .int .u8 0, .int .u8 0, .int .u8 0, .int .u8 0, .int .u8 0, .int .u8 0, .int .u8 0, .int .u8 0, .int .u8 0, .int .u8 0, .int .u8 0, .int .u8 0, .int .u8 0, .int .u8 0, .int .u32 0, .int .u32 0, .int .u32 0] (by kernel_rfl)
  have H6 : Hp w [] [.blk p3 [.int .u32 0, .int .u8 0, .int .u8 0, .int .u8 0, .int .u8 0, .int .u8 0, .int .u8 0, .int .u8 0, .int .u8 0, .int .u8 0, .int .u8 0, .int .u8 0, .int .u8 0, .int .u8 0, .int .u8 0, .int .u8 0, .int .u8 0, .int .u8 0, .int .u8 0, .int .u8 0, .int .u8 0, .int .u8 0, .int .u8 0, .int .u8 0, .int .u8 0, .int .u8 0, .int .u8 0, .int .u8 0, .int .u8 0, .int .u8 0, .int .u8 0, .int .u8 0, .int .u8 0, .int .u8 0, .int .u8 0, .int .u8 0, .int .u8 0, .int .u8 0, .int .u8 0, .int .u8 0, .int .u8 0, .int .u8 0, .int .u8 0, .int .u8 0, .int .u8 0, .int .u8 0, .int .u8 0, .int .u8 0, .int .u8 0, .int .u8 0, .int .u8 0, .int .u8 0, .int .u8 0, .int .u8 0, .int .u8 0, .int .u8 0, .int .u8 0, .int .u8 0, .int .u8 0, .int .u8 0, .int .u8 0, .int .u8 0, .int .u8 0, .int .u8 0, .int .u8 0, .int .u32 0, .int .u32 0, .int .u32 0] 26] w4 := H6
  refine GL.sem (j := 1) (r5) [0] [(0, pt p3 0)] (by kernel_rfl) (by kernel_rfl) rfl ?_
  refine GL.k rfl hK2 (fun _ _ h => h) ?_
  refine G.seqK fun K7 hK8 => ?_
  refine G.region ?_
  refine GL.call (j := 1) ((by have h_ := Parse_calls ([52, 97, 53, 101, 49, 101, 52, 98, 97, 97, 98, 56, 57, 102, 51, 97, 51, 50, 53, 49, 56, 97, 56, 56, 99, 51, 49, 98, 99, 56, 55, 102, 54, 49, 56, 102, 55, 54, 54, 55, 51, 101, 50, 99, 99, 55, 55, 97, 98, 50, 49, 50, 55, 98, 55, 97, 102, 100, 101, 100, 97, 51, 51, 98] : List UInt8) w4 (by decide); rw [first_root.1, first_root.2] at h_; exact h_)) (by kernel_rfl) rfl (fun e_ w9 hR => ?_)
  obtain ⟨rfl, H11⟩ := hR
  have H10 : Hp w [] [.blk p3 [.int .u32 0, .int .u8 0, .int .u8 0, .int .u8 0, .int .u8 0, .int .u8 0, .int .u8 0, .int .u8 0, .int .u8 0, .int .u8 0, .int .u8 0, .int .u8 0, .int .u8 0, .int .u8 0, .int .u8 0, .int .u8 0, .int .u8 0, .int .u8 0, .int .u8 0, .int .u8 0, .int .u8 0, .int .u8 0, .int .u8 0, .int .u8 0, .int .u8 0, .int .u8 0, .int .u8 0, .int .u8 0, .int .u8 0, .int .u8 0, .int .u8 0, .int .u8 0, .int .u8 0, .int .u8 0, .int .u8 0, .int .u8 0, .int .u8 0, .int .u8 0, .int .u8 0, .int .u8 0, .int .u8 0, .int .u8 0, .int .u8 0, .int .u8 0, .int .u8 0, .int .u8 0, .int .u8 0, .int .u8 0, .int .u8 0, .int .u8 0, .int .u8 0, .int .u8 0, .int .u8 0, .int .u8 0, .int .u8 0, .int .u8 0, .int .u8 0, .int .u8 0, .int .u8 0, .int .u8 0, .int .u8 0, .int .u8 0, .int .u8 0, .int .u8 0, .int .u8 0, .int .u32 0, .int .u32 0, .int .u32 0] 26] w9 := H6.callNil H11
  refine ⟨_, rfl, [0, 4], [(0, pt p3 0), (4, .tuple #[.agg #[.int .u8 59, .int .u8 163, .int .u8 237, .int .u8 253, .int .u8 122, .int .u8 123, .int .u8 18, .int .u8 178, .int .u8 122, .int .u8 199, .int .u8 44, .int .u8 62, .int .u8 103, .int .u8 118, .int .u8 143, .int .u8 97, .int .u8 127, .int .u8 200, .int .u8 27, .int .u8 195, .int .u8 136, .int .u8 138, .int .u8 81, .int .u8 50, .int .u8 58, .int .u8 159, .int .u8 184, .int .u8 170, .int .u8 75, .int .u8 30, .int .u8 94, .int .u8 74], .int .i64 0])], by kernel_rfl, ?_⟩
  refine GL.run (j := 4) 3 [0, 5, 6] [(0, pt p3 0), (5, .agg #[.int .u8 59, .int .u8 163, .int .u8 237, .int .u8 253, .int .u8 122, .int .u8 123, .int .u8 18, .int .u8 178, .int .u8 122, .int .u8 199, .int .u8 44, .int .u8 62, .int .u8 103, .int .u8 118, .int .u8 143, .int .u8 97, .int .u8 127, .int .u8 200, .int .u8 27, .int .u8 195, .int .u8 136, .int .u8 138, .int .u8 81, .int .u8 50, .int .u8 58, .int .u8 159, .int .u8 184, .int .u8 170, .int .u8 75, .int .u8 30, .int .u8 94, .int .u8 74]), (6, .int .i64 0)] (by kernel_rfl) rfl ?_
  obtain ⟨p12, w13, r14, H15⟩ := H10.alloc (P := Try.prog) 24 [.int .u8 0, .int .u8 0, .int .u8 0, .int .u8 0, .int .u8 0, .int .u8 0, .int .u8 0, .int .u8 0, .int .u8 0, .int .u8 0, .int .u8 0, .int .u8 0, .int .u8 0, .int .u8 0, .int .u8 0, .int .u8 0, .int .u8 0, .int .u8 0, .int .u8 0, .int .u8 0, .int .u8 0, .int .u8 0, .int .u8 0, .int .u8 0, .int .u8 0, .int .u8 0, .int .u8 0, .int .u8 0, .int .u8 0, .int .u8 0, .int .u8 0, .int .u8 0] (by kernel_rfl)
  have H15 : Hp w [] [.blk p3 [.int .u32 0, .int .u8 0, .int .u8 0, .int .u8 0, .int .u8 0, .int .u8 0, .int .u8 0, .int .u8 0, .int .u8 0, .int .u8 0, .int .u8 0, .int .u8 0, .int .u8 0, .int .u8 0, .int .u8 0, .int .u8 0, .int .u8 0, .int .u8 0, .int .u8 0, .int .u8 0, .int .u8 0, .int .u8 0, .int .u8 0, .int .u8 0, .int .u8 0, .int .u8 0, .int .u8 0, .int .u8 0, .int .u8 0, .int .u8 0, .int .u8 0, .int .u8 0, .int .u8 0, .int .u8 0, .int .u8 0, .int .u8 0, .int .u8 0, .int .u8 0, .int .u8 0, .int .u8 0, .int .u8 0, .int .u8 0, .int .u8 0, .int .u8 0, .int .u8 0, .int .u8 0, .int .u8 0, .int .u8 0, .int .u8 0, .int .u8 0, .int .u8 0, .int .u8 0, .int .u8 0, .int .u8 0, .int .u8 0, .int .u8 0, .int .u8 0, .int .u8 0, .int .u8 0, .int .u8 0, .int .u8 0, .int .u8 0, .int .u8 0, .int .u8 0, .int .u8 0, .int .u32 0, .int .u32 0, .int .u32 0] 26, .blk p12 [.int .u8 0, .int .u8 0, .int .u8 0, .int .u8 0, .int .u8 0, .int .u8 0, .int .u8 0, .int .u8 0, .int .u8 0, .int .u8 0, .int .u8 0, .int .u8 0, .int .u8 0, .int .u8 0, .int .u8 0, .int .u8 0, .int .u8 0, .int .u8 0, .int .u8 0, .int .u8 0, .int .u8 0, .int .u8 0, .int .u8 0, .int .u8 0, .int .u8 0, .int .u8 0, .int .u8 0, .int .u8 0, .int .u8 0, .int .u8 0, .int .u8 0, .int .u8 0] 24] w13 := H15
  refine GL.sem (j := 5) (r14) [0, 1, 5, 6] [(0, pt p3 0), (1, pt p12 0), (5, .agg #[.int .u8 59, .int .u8 163, .int .u8 237, .int .u8 253, .int .u8 122, .int .u8 123, .int .u8 18, .int .u8 178, .int .u8 122, .int .u8 199, .int .u8 44, .int .u8 62, .int .u8 103, .int .u8 118, .int .u8 143, .int .u8 97, .int .u8 127, .int .u8 200, .int .u8 27, .int .u8 195, .int .u8 136, .int .u8 138, .int .u8 81, .int .u8 50, .int .u8 58, .int .u8 159, .int .u8 184, .int .u8 170, .int .u8 75, .int .u8 30, .int .u8 94, .int .u8 74]), (6, .int .i64 0)] (by kernel_rfl) (by kernel_rfl) rfl ?_
  obtain ⟨w16, r17, H18⟩ := H15.stA (P := Try.prog) (o := 0) (vs := [.int .u8 59, .int .u8 163, .int .u8 237, .int .u8 253, .int .u8 122, .int .u8 123, .int .u8 18, .int .u8 178, .int .u8 122, .int .u8 199, .int .u8 44, .int .u8 62, .int .u8 103, .int .u8 118, .int .u8 143, .int .u8 97, .int .u8 127, .int .u8 200, .int .u8 27, .int .u8 195, .int .u8 136, .int .u8 138, .int .u8 81, .int .u8 50, .int .u8 58, .int .u8 159, .int .u8 184, .int .u8 170, .int .u8 75, .int .u8 30, .int .u8 94, .int .u8 74]) (ty := 24) (m := 32) 1 rfl (by kernel_rfl) rfl (by simp) (by simp [Value.oneCell'])
  have H18 : Hp w [] [.blk p3 [.int .u32 0, .int .u8 0, .int .u8 0, .int .u8 0, .int .u8 0, .int .u8 0, .int .u8 0, .int .u8 0, .int .u8 0, .int .u8 0, .int .u8 0, .int .u8 0, .int .u8 0, .int .u8 0, .int .u8 0, .int .u8 0, .int .u8 0, .int .u8 0, .int .u8 0, .int .u8 0, .int .u8 0, .int .u8 0, .int .u8 0, .int .u8 0, .int .u8 0, .int .u8 0, .int .u8 0, .int .u8 0, .int .u8 0, .int .u8 0, .int .u8 0, .int .u8 0, .int .u8 0, .int .u8 0, .int .u8 0, .int .u8 0, .int .u8 0, .int .u8 0, .int .u8 0, .int .u8 0, .int .u8 0, .int .u8 0, .int .u8 0, .int .u8 0, .int .u8 0, .int .u8 0, .int .u8 0, .int .u8 0, .int .u8 0, .int .u8 0, .int .u8 0, .int .u8 0, .int .u8 0, .int .u8 0, .int .u8 0, .int .u8 0, .int .u8 0, .int .u8 0, .int .u8 0, .int .u8 0, .int .u8 0, .int .u8 0, .int .u8 0, .int .u8 0, .int .u8 0, .int .u32 0, .int .u32 0, .int .u32 0] 26, .blk p12 [.int .u8 59, .int .u8 163, .int .u8 237, .int .u8 253, .int .u8 122, .int .u8 123, .int .u8 18, .int .u8 178, .int .u8 122, .int .u8 199, .int .u8 44, .int .u8 62, .int .u8 103, .int .u8 118, .int .u8 143, .int .u8 97, .int .u8 127, .int .u8 200, .int .u8 27, .int .u8 195, .int .u8 136, .int .u8 138, .int .u8 81, .int .u8 50, .int .u8 58, .int .u8 159, .int .u8 184, .int .u8 170, .int .u8 75, .int .u8 30, .int .u8 94, .int .u8 74] 24] w16 := H18
  refine GL.semU (j := 6) r17 [0, 1, 6] [(0, pt p3 0), (1, pt p12 0), (6, .int .i64 0)] (by kernel_rfl) rfl rfl rfl ?_
  refine GL.run (j := 7) 1 [0, 1] [(0, pt p3 0), (1, pt p12 0)] (by kernel_rfl) rfl ?_
  refine GL.k rfl hK8 (fun _ _ h => h) ?_
  refine G.seqK fun K19 hK20 => ?_
  refine G.region ?_
  refine GL.sem (j := 1) (H18.ldA (o := 0) (ty := 24) (m := 32) (sub := [.int .u8 59, .int .u8 163, .int .u8 237, .int .u8 253, .int .u8 122, .int .u8 123, .int .u8 18, .int .u8 178, .int .u8 122, .int .u8 199, .int .u8 44, .int .u8 62, .int .u8 103, .int .u8 118, .int .u8 143, .int .u8 97, .int .u8 127, .int .u8 200, .int .u8 27, .int .u8 195, .int .u8 136, .int .u8 138, .int .u8 81, .int .u8 50, .int .u8 58, .int .u8 159, .int .u8 184, .int .u8 170, .int .u8 75, .int .u8 30, .int .u8 94, .int .u8 74]) 1 rfl (by kernel_rfl) rfl rfl) [0, 7] [(0, pt p3 0), (7, .agg #[.int .u8 59, .int .u8 163, .int .u8 237, .int .u8 253, .int .u8 122, .int .u8 123, .int .u8 18, .int .u8 178, .int .u8 122, .int .u8 199, .int .u8 44, .int .u8 62, .int .u8 103, .int .u8 118, .int .u8 143, .int .u8 97, .int .u8 127, .int .u8 200, .int .u8 27, .int .u8 195, .int .u8 136, .int .u8 138, .int .u8 81, .int .u8 50, .int .u8 58, .int .u8 159, .int .u8 184, .int .u8 170, .int .u8 75, .int .u8 30, .int .u8 94, .int .u8 74])] (by kernel_rfl) (by kernel_rfl) rfl ?_
  refine GL.run (j := 2) 1 [0, 8] [(0, pt p3 0), (8, .agg #[.int .u32 1, .int .u8 0, .int .u8 0, .int .u8 0, .int .u8 0, .int .u8 0, .int .u8 0, .int .u8 0, .int .u8 0, .int .u8 0, .int .u8 0, .int .u8 0, .int .u8 0, .int .u8 0, .int .u8 0, .int .u8 0, .int .u8 0, .int .u8 0, .int .u8 0, .int .u8 0, .int .u8 0, .int .u8 0, .int .u8 0, .int .u8 0, .int .u8 0, .int .u8 0, .int .u8 0, .int .u8 0, .int .u8 0, .int .u8 0, .int .u8 0, .int .u8 0, .int .u8 0, .int .u8 59, .int .u8 163, .int .u8 237, .int .u8 253, .int .u8 122, .int .u8 123, .int .u8 18, .int .u8 178, .int .u8 122, .int .u8 199, .int .u8 44, .int .u8 62, .int .u8 103, .int .u8 118, .int .u8 143, .int .u8 97, .int .u8 127, .int .u8 200, .int .u8 27, .int .u8 195, .int .u8 136, .int .u8 138, .int .u8 81, .int .u8 50, .int .u8 58, .int .u8 159, .int .u8 184, .int .u8 170, .int .u8 75, .int .u8 30, .int .u8 94, .int .u8 74, .int .u32 1231006505, .int .u32 486604799, .int .u32 2083236893])] (by kernel_rfl) rfl ?_
  obtain ⟨w21, r22, H23⟩ := H18.stA (P := Try.prog) (o := 0) (vs := [.int .u32 1, .int .u8 0, .int .u8 0, .int .u8 0, .int .u8 0, .int .u8 0, .int .u8 0, .int .u8 0, .int .u8 0, .int .u8 0, .int .u8 0, .int .u8 0, .int .u8 0, .int .u8 0, .int .u8 0, .int .u8 0, .int .u8 0, .int .u8 0, .int .u8 0, .int .u8 0, .int .u8 0, .int .u8 0, .int .u8 0, .int .u8 0, .int .u8 0, .int .u8 0, .int .u8 0, .int .u8 0, .int .u8 0, .int .u8 0, .int .u8 0, .int .u8 0, .int .u8 0, .int .u8 59, .int .u8 163, .int .u8 237, .int .u8 253, .int .u8 122, .int .u8 123, .int .u8 18, .int .u8 178, .int .u8 122, .int .u8 199, .int .u8 44, .int .u8 62, .int .u8 103, .int .u8 118, .int .u8 143, .int .u8 97, .int .u8 127, .int .u8 200, .int .u8 27, .int .u8 195, .int .u8 136, .int .u8 138, .int .u8 81, .int .u8 50, .int .u8 58, .int .u8 159, .int .u8 184, .int .u8 170, .int .u8 75, .int .u8 30, .int .u8 94, .int .u8 74, .int .u32 1231006505, .int .u32 486604799, .int .u32 2083236893]) (ty := 26) (m := 68) 0 rfl (by kernel_rfl) rfl (by simp) (by simp [Value.oneCell'])
  have H23 : Hp w [] [.blk p3 [.int .u32 1, .int .u8 0, .int .u8 0, .int .u8 0, .int .u8 0, .int .u8 0, .int .u8 0, .int .u8 0, .int .u8 0, .int .u8 0, .int .u8 0, .int .u8 0, .int .u8 0, .int .u8 0, .int .u8 0, .int .u8 0, .int .u8 0, .int .u8 0, .int .u8 0, .int .u8 0, .int .u8 0, .int .u8 0, .int .u8 0, .int .u8 0, .int .u8 0, .int .u8 0, .int .u8 0, .int .u8 0, .int .u8 0, .int .u8 0, .int .u8 0, .int .u8 0, .int .u8 0, .int .u8 59, .int .u8 163, .int .u8 237, .int .u8 253, .int .u8 122, .int .u8 123, .int .u8 18, .int .u8 178, .int .u8 122, .int .u8 199, .int .u8 44, .int .u8 62, .int .u8 103, .int .u8 118, .int .u8 143, .int .u8 97, .int .u8 127, .int .u8 200, .int .u8 27, .int .u8 195, .int .u8 136, .int .u8 138, .int .u8 81, .int .u8 50, .int .u8 58, .int .u8 159, .int .u8 184, .int .u8 170, .int .u8 75, .int .u8 30, .int .u8 94, .int .u8 74, .int .u32 1231006505, .int .u32 486604799, .int .u32 2083236893] 26, .blk p12 [.int .u8 59, .int .u8 163, .int .u8 237, .int .u8 253, .int .u8 122, .int .u8 123, .int .u8 18, .int .u8 178, .int .u8 122, .int .u8 199, .int .u8 44, .int .u8 62, .int .u8 103, .int .u8 118, .int .u8 143, .int .u8 97, .int .u8 127, .int .u8 200, .int .u8 27, .int .u8 195, .int .u8 136, .int .u8 138, .int .u8 81, .int .u8 50, .int .u8 58, .int .u8 159, .int .u8 184, .int .u8 170, .int .u8 75, .int .u8 30, .int .u8 94, .int .u8 74] 24] w21 := H23
  refine GL.semU (j := 3) r22 [0] [(0, pt p3 0)] (by kernel_rfl) rfl rfl rfl ?_
  refine GL.k rfl hK20 (fun _ _ h => h) ?_
  refine G.ret ?_
  intro F_ hF_ hM_
  refine hRet _ _ (bodyPost_1 rfl (RV.cell rfl (H23.ldA (o := 0) (ty := 26) (m := 68) (sub := [.int .u32 1, .int .u8 0, .int .u8 0, .int .u8 0, .int .u8 0, .int .u8 0, .int .u8 0, .int .u8 0, .int .u8 0, .int .u8 0, .int .u8 0, .int .u8 0, .int .u8 0, .int .u8 0, .int .u8 0, .int .u8 0, .int .u8 0, .int .u8 0, .int .u8 0, .int .u8 0, .int .u8 0, .int .u8 0, .int .u8 0, .int .u8 0, .int .u8 0, .int .u8 0, .int .u8 0, .int .u8 0, .int .u8 0, .int .u8 0, .int .u8 0, .int .u8 0, .int .u8 0, .int .u8 59, .int .u8 163, .int .u8 237, .int .u8 253, .int .u8 122, .int .u8 123, .int .u8 18, .int .u8 178, .int .u8 122, .int .u8 199, .int .u8 44, .int .u8 62, .int .u8 103, .int .u8 118, .int .u8 143, .int .u8 97, .int .u8 127, .int .u8 200, .int .u8 27, .int .u8 195, .int .u8 136, .int .u8 138, .int .u8 81, .int .u8 50, .int .u8 58, .int .u8 159, .int .u8 184, .int .u8 170, .int .u8 75, .int .u8 30, .int .u8 94, .int .u8 74, .int .u32 1231006505, .int .u32 486604799, .int .u32 2083236893]) 0 rfl (by kernel_rfl) rfl rfl)) ?_ F_ hF_ hM_)
  exact ⟨rfl, H23.sub (List.nil_sublist _)⟩
theorem first_num : bsum (fun i => (([111, 226, 140, 10, 182, 241, 179, 114, 193, 166, 162, 70, 174, 99, 247, 79, 147, 30, 131, 101, 225, 90, 8, 156, 104, 214, 25, 0, 0, 0, 0, 0] : List UInt8).getD i 0).toNat) 32 = 10628944869218562084050143519444549580389464591454674019345556079 := by kernel_rfl
theorem Lit0_calls (w : World) : Calls Try.prog 51 #[.int .u64 65535] w fun e w' => e = .returned (.agg #[.int .u64 65535, .int .u64 0, .int .u64 0, .int .u64 0]) ∧ Hp w [] [] w' := by
  refine calls_G (args := [.int .u64 65535]) Try.func51 rfl Try.ntmps51 rfl ?_
  intro Q0 hRet hNor hPan
  have H := Hp.start w
  have H : Hp w [] [] w := H
  refine G.seqK fun K1 hK2 => ?_
  refine G.region ?_
  obtain ⟨p3, w4, r5, H6⟩ := H.alloc (P := Try.prog) 33 [.int .u64 0, .int .u64 0, .int .u64 0, .int .u64 0] (by kernel_rfl)
  have H6 : Hp w [] [.blk p3 [.int .u64 0, .int .u64 0, .int .u64 0, .int .u64 0] 33] w4 := H6
  refine GL.sem (j := 1) (r5) [0, 2] [(0, .int .u64 65535), (2, pt p3 0)] (by kernel_rfl) (by kernel_rfl) rfl ?_
  refine GL.k rfl hK2 (fun _ _ h => h) ?_
  refine G.seqK fun K7 hK8 => ?_
  refine G.region ?_
  refine GL.run (j := 2) 2 [2, 4] [(2, pt p3 0), (4, .agg #[.int .u64 65535, .int .u64 0, .int .u64 0, .int .u64 0])] (by kernel_rfl) rfl ?_
  obtain ⟨w9, r10, H11⟩ := H6.stA (P := Try.prog) (o := 0) (vs := [.int .u64 65535, .int .u64 0, .int .u64 0, .int .u64 0]) (ty := 33) (m := 4) 0 rfl (by kernel_rfl) rfl (by simp) (by simp [Value.oneCell'])
  have H11 : Hp w [] [.blk p3 [.int .u64 65535, .int .u64 0, .int .u64 0, .int .u64 0] 33] w9 := H11
  refine GL.semU (j := 3) r10 [2] [(2, pt p3 0)] (by kernel_rfl) rfl rfl rfl ?_
  refine GL.k rfl hK8 (fun _ _ h => h) ?_
  refine G.ret ?_
  intro F_ hF_ hM_
  refine hRet _ _ (bodyPost_1 rfl (RV.cell rfl (H11.ldA (o := 0) (ty := 33) (m := 4) (sub := [.int .u64 65535, .int .u64 0, .int .u64 0, .int .u64 0]) 0 rfl (by kernel_rfl) rfl rfl)) ?_ F_ hF_ hM_)
  exact ⟨rfl, H11.sub (List.nil_sublist _)⟩
theorem Lit1_calls (w : World) : Calls Try.prog 65 #[.int .u64 65535] w fun e w' => e = .returned (.int .i64 16) ∧ Hp w [] [] w' := by
  refine calls_G (args := [.int .u64 65535]) Try.func65 rfl Try.ntmps65 rfl ?_
  intro Q0 hRet hNor hPan
  have H := Hp.start w
  have H : Hp w [] [] w := H
  refine G.seqK fun K1 hK2 => ?_
  refine G.region ?_
  refine GL.run (j := 1) 1 [0, 2] [(0, .int .u64 65535), (2, .int .i64 0)] (by kernel_rfl) rfl ?_
  refine GL.k rfl hK2 (fun _ _ h => h) ?_
  refine G.seqK fun K3 hK4 => ?_
  refine G.seqK fun K5 hK6 => ?_
  refine G.region ?_
  refine GL.run (j := 2) 2 [0, 2, 4] [(0, .int .u64 65535), (2, .int .i64 0), (4, .bool false)] (by kernel_rfl) rfl ?_
  refine GL.k rfl hK6 (fun _ _ h => h) ?_
  refine G.no rfl ?_
  refine G.skipK hK4 (fun _ _ h => h) ?_
  refine G.seqK fun K7 hK8 => ?_
  refine G.seqK fun K9 hK10 => ?_
  refine G.region ?_
  refine GL.run (j := 2) 2 [0, 2, 8] [(0, .int .u64 65535), (2, .int .i64 0), (8, .bool false)] (by kernel_rfl) rfl ?_
  refine GL.k rfl hK10 (fun _ _ h => h) ?_
  refine G.no rfl ?_
  refine G.skipK hK8 (fun _ _ h => h) ?_
  refine G.seqK fun K11 hK12 => ?_
  refine G.seqK fun K13 hK14 => ?_
  refine G.region ?_
  refine GL.run (j := 2) 2 [0, 2, 14] [(0, .int .u64 65535), (2, .int .i64 0), (14, .bool true)] (by kernel_rfl) rfl ?_
  refine GL.k rfl hK14 (fun _ _ h => h) ?_
  refine G.yes rfl ?_
  refine G.seqK fun K15 hK16 => ?_
  refine G.region ?_
  refine GL.run (j := 3) 3 [0, 2] [(0, .int .u64 255), (2, .int .i64 0)] (by kernel_rfl) rfl ?_
  refine GL.k rfl hK16 (fun _ _ h => h) ?_
  refine G.region ?_
  refine GL.run (j := 3) 3 [0, 2] [(0, .int .u64 255), (2, .int .i64 8)] (by kernel_rfl) rfl ?_
  refine GL.k rfl hK12 (fun _ _ h => h) ?_
  refine G.seqK fun K17 hK18 => ?_
  refine G.region ?_
  refine GL.run (j := 3) 3 [19, 21] [(19, .int .i64 8), (21, .int .u8 255)] (by kernel_rfl) rfl ?_
  refine GL.sem (j := 4) (run_strIdx (P := Try.prog) (k := .u8) (t := 9) (s := tab8) (i := 255) (b := 8) (by kernel_rfl) (by kernel_rfl) _) [19, 22] [(19, .int .i64 8), (22, .int .u8 8)] (by kernel_rfl) (by kernel_rfl) rfl ?_
  refine GL.run (j := 7) 3 [2] [(2, .int .i64 16)] (by kernel_rfl) rfl ?_
  refine GL.k rfl hK18 (fun _ _ h => h) ?_
  refine G.ret ?_
  intro F_ hF_ hM_
  refine hRet _ _ (bodyPost_1 rfl (RV.tmp rfl) ?_ F_ hF_ hM_)
  exact ⟨rfl, H.sub (List.nil_sublist _)⟩
theorem Lit2_calls (w : World) : Calls Try.prog 52 #[.agg #[.int .u64 65535, .int .u64 0, .int .u64 0, .int .u64 0]] w fun e w' => e = .returned (.int .i64 16) ∧ Hp w [] [] w' := by
  refine calls_G (args := [.agg #[.int .u64 65535, .int .u64 0, .int .u64 0, .int .u64 0]]) Try.func52 rfl Try.ntmps52 rfl ?_
  intro Q0 hRet hNor hPan
  have H := Hp.start w
  have H : Hp w [] [] w := H
  refine G.seqK fun K1 hK2 => ?_
  refine G.region ?_
  obtain ⟨p3, w4, r5, H6⟩ := H.box (P := Try.prog) 33 [.int .u64 65535, .int .u64 0, .int .u64 0, .int .u64 0] (.agg #[.int .u64 65535, .int .u64 0, .int .u64 0, .int .u64 0]) rfl
  have H6 : Hp w [] [.blk p3 [.int .u64 65535, .int .u64 0, .int .u64 0, .int .u64 0] 33] w4 := H6
  refine GL.sem (j := 1) (r5) [1] [(1, pt p3 0)] (by kernel_rfl) (by kernel_rfl) rfl ?_
  refine GL.run (j := 2) 1 [1] [(1, pt p3 0)] (by kernel_rfl) rfl ?_
  refine GL.k rfl hK2 (fun _ _ h => h) ?_
  refine G.seqK fun K7 hK8 => ?_
  refine G.seqK fun K9 hK10 => ?_
  refine G.region ?_
  refine GL.run (j := 1) 1 [1, 3] [(1, pt p3 0), (3, .int .i64 3)] (by kernel_rfl) rfl ?_
  refine GL.k rfl hK10 (fun _ _ h => h) ?_
  refine G.block ?_
  refine G.unroll 70 ?_
  refine G.seqK fun K11 hK12 => ?_
  refine G.seqK fun K13 hK14 => ?_
  refine G.region ?_
  refine GL.run (j := 2) 2 [1, 3, 5] [(1, pt p3 0), (3, .int .i64 3), (5, .bool true)] (by kernel_rfl) rfl ?_
  refine GL.k rfl hK14 (fun _ _ h => h) ?_
  refine G.yes rfl ?_
  refine G.skipK hK12 (fun _ _ h => h) ?_
  refine G.seqK fun K15 hK16 => ?_
  refine G.block ?_
  refine G.seqK fun K17 hK18 => ?_
  refine G.region ?_
  refine GL.run (j := 2) 2 [1, 3, 9] [(1, pt p3 0), (3, .int .i64 3), (9, pt p3 3)] (by kernel_rfl) rfl ?_
  refine GL.sem (j := 3) (H6.ld (o := 3) (ty := 31) (v := .int .u64 0) 0 rfl (by kernel_rfl) rfl) [1, 3, 10] [(1, pt p3 0), (3, .int .i64 3), (10, .int .u64 0)] (by kernel_rfl) (by kernel_rfl) rfl ?_
  refine GL.run (j := 4) 1 [1, 3, 11] [(1, pt p3 0), (3, .int .i64 3), (11, .bool false)] (by kernel_rfl) rfl ?_
  refine GL.k rfl hK18 (fun _ _ h => h) ?_
  refine G.no rfl ?_
  refine G.skipK hK16 (fun _ _ h => h) ?_
  refine G.region ?_
  refine GL.run (j := 3) 3 [1, 3] [(1, pt p3 0), (3, .int .i64 2)] (by kernel_rfl) rfl ?_
  refine GL.round rfl ?_
  refine G.seqK fun K19 hK20 => ?_
  refine G.seqK fun K21 hK22 => ?_
  refine G.region ?_
  refine GL.run (j := 2) 2 [1, 3, 5] [(1, pt p3 0), (3, .int .i64 2), (5, .bool true)] (by kernel_rfl) rfl ?_
  refine GL.k rfl hK22 (fun _ _ h => h) ?_
  refine G.yes rfl ?_
  refine G.skipK hK20 (fun _ _ h => h) ?_
  refine G.seqK fun K23 hK24 => ?_
  refine G.block ?_
  refine G.seqK fun K25 hK26 => ?_
  refine G.region ?_
  refine GL.run (j := 2) 2 [1, 3, 9] [(1, pt p3 0), (3, .int .i64 2), (9, pt p3 2)] (by kernel_rfl) rfl ?_
  refine GL.sem (j := 3) (H6.ld (o := 2) (ty := 31) (v := .int .u64 0) 0 rfl (by kernel_rfl) rfl) [1, 3, 10] [(1, pt p3 0), (3, .int .i64 2), (10, .int .u64 0)] (by kernel_rfl) (by kernel_rfl) rfl ?_
  refine GL.run (j := 4) 1 [1, 3, 11] [(1, pt p3 0), (3, .int .i64 2), (11, .bool false)] (by kernel_rfl) rfl ?_
  refine GL.k rfl hK26 (fun _ _ h => h) ?_
  refine G.no rfl ?_
  refine G.skipK hK24 (fun _ _ h => h) ?_
  refine G.region ?_
  refine GL.run (j := 3) 3 [1, 3] [(1, pt p3 0), (3, .int .i64 1)] (by kernel_rfl) rfl ?_
  refine GL.round rfl ?_
  refine G.seqK fun K27 hK28 => ?_
  refine G.seqK fun K29 hK30 => ?_
  refine G.region ?_
  refine GL.run (j := 2) 2 [1, 3, 5] [(1, pt p3 0), (3, .int .i64 1), (5, .bool true)] (by kernel_rfl) rfl ?_
  refine GL.k rfl hK30 (fun _ _ h => h) ?_
  refine G.yes rfl ?_
  refine G.skipK hK28 (fun _ _ h => h) ?_
  refine G.seqK fun K31 hK32 => ?_
  refine G.block ?_
  refine G.seqK fun K33 hK34 => ?_
  refine G.region ?_
  refine GL.run (j := 2) 2 [1, 3, 9] [(1, pt p3 0), (3, .int .i64 1), (9, pt p3 1)] (by kernel_rfl) rfl ?_
  refine GL.sem (j := 3) (H6.ld (o := 1) (ty := 31) (v := .int .u64 0) 0 rfl (by kernel_rfl) rfl) [1, 3, 10] [(1, pt p3 0), (3, .int .i64 1), (10, .int .u64 0)] (by kernel_rfl) (by kernel_rfl) rfl ?_
  refine GL.run (j := 4) 1 [1, 3, 11] [(1, pt p3 0), (3, .int .i64 1), (11, .bool false)] (by kernel_rfl) rfl ?_
  refine GL.k rfl hK34 (fun _ _ h => h) ?_
  refine G.no rfl ?_
  refine G.skipK hK32 (fun _ _ h => h) ?_
  refine G.region ?_
  refine GL.run (j := 3) 3 [1, 3] [(1, pt p3 0), (3, .int .i64 0)] (by kernel_rfl) rfl ?_
  refine GL.round rfl ?_
  refine G.seqK fun K35 hK36 => ?_
  refine G.seqK fun K37 hK38 => ?_
  refine G.region ?_
  refine GL.run (j := 2) 2 [1, 3, 5] [(1, pt p3 0), (3, .int .i64 0), (5, .bool true)] (by kernel_rfl) rfl ?_
  refine GL.k rfl hK38 (fun _ _ h => h) ?_
  refine G.yes rfl ?_
  refine G.skipK hK36 (fun _ _ h => h) ?_
  refine G.seqK fun K39 hK40 => ?_
  refine G.block ?_
  refine G.seqK fun K41 hK42 => ?_
  refine G.region ?_
  refine GL.run (j := 2) 2 [1, 3, 9] [(1, pt p3 0), (3, .int .i64 0), (9, pt p3 0)] (by kernel_rfl) rfl ?_
  refine GL.sem (j := 3) (H6.ld (o := 0) (ty := 31) (v := .int .u64 65535) 0 rfl (by kernel_rfl) rfl) [1, 3, 10] [(1, pt p3 0), (3, .int .i64 0), (10, .int .u64 65535)] (by kernel_rfl) (by kernel_rfl) rfl ?_
  refine GL.run (j := 4) 1 [1, 3, 11] [(1, pt p3 0), (3, .int .i64 0), (11, .bool true)] (by kernel_rfl) rfl ?_
  refine GL.k rfl hK42 (fun _ _ h => h) ?_
  refine G.yes rfl ?_
  refine G.seqK fun K43 hK44 => ?_
  refine G.region ?_
  refine GL.run (j := 4) 4 [13, 15] [(13, .int .i64 0), (15, pt p3 0)] (by kernel_rfl) rfl ?_
  refine GL.sem (j := 5) (H6.ld (o := 0) (ty := 31) (v := .int .u64 65535) 0 rfl (by kernel_rfl) rfl) [13, 16] [(13, .int .i64 0), (16, .int .u64 65535)] (by kernel_rfl) (by kernel_rfl) rfl ?_
  refine GL.call (j := 6) (Lit1_calls w4) (by kernel_rfl) rfl (fun e_ w45 hR => ?_)
  obtain ⟨rfl, H47⟩ := hR
  have H46 : Hp w [] [.blk p3 [.int .u64 65535, .int .u64 0, .int .u64 0, .int .u64 0] 33] w45 := H6.callNil H47
  refine ⟨_, rfl, [13, 17], [(13, .int .i64 0), (17, .int .i64 16)], by kernel_rfl, ?_⟩
  refine GL.run (j := 8) 2 [2] [(2, .int .i64 16)] (by kernel_rfl) rfl ?_
  refine GL.k rfl hK44 (fun _ _ h => h) ?_
  refine G.ret ?_
  intro F_ hF_ hM_
  refine hRet _ _ (bodyPost_1 rfl (RV.tmp rfl) ?_ F_ hF_ hM_)
  exact ⟨rfl, H46.sub (List.nil_sublist _)⟩
theorem Lit3_calls (w : World) : Calls Try.prog 53 #[.agg #[.int .u64 65535, .int .u64 0, .int .u64 0, .int .u64 0], .int .i64 208] w fun e w' => e = .returned (.agg #[.int .u64 0, .int .u64 0, .int .u64 0, .int .u64 4294901760]) ∧ Hp w [] [] w' := by
  refine calls_G (args := [.agg #[.int .u64 65535, .int .u64 0, .int .u64 0, .int .u64 0], .int .i64 208]) Try.func53 rfl Try.ntmps53 rfl ?_
  intro Q0 hRet hNor hPan
  have H := Hp.start w
  have H : Hp w [] [] w := H
  refine G.seqK fun K1 hK2 => ?_
  refine G.region ?_
  obtain ⟨p3, w4, r5, H6⟩ := H.box (P := Try.prog) 33 [.int .u64 65535, .int .u64 0, .int .u64 0, .int .u64 0] (.agg #[.int .u64 65535, .int .u64 0, .int .u64 0, .int .u64 0]) rfl
  have H6 : Hp w [] [.blk p3 [.int .u64 65535, .int .u64 0, .int .u64 0, .int .u64 0] 33] w4 := H6
  refine GL.sem (j := 1) (r5) [1, 2] [(1, .int .i64 208), (2, pt p3 0)] (by kernel_rfl) (by kernel_rfl) rfl ?_
  obtain ⟨p7, w8, r9, H10⟩ := H6.alloc (P := Try.prog) 33 [.int .u64 0, .int .u64 0, .int .u64 0, .int .u64 0] (by kernel_rfl)
  have H10 : Hp w [] [.blk p3 [.int .u64 65535, .int .u64 0, .int .u64 0, .int .u64 0] 33, .blk p7 [.int .u64 0, .int .u64 0, .int .u64 0, .int .u64 0] 33] w8 := H10
  refine GL.sem (j := 2) (r9) [1, 2, 4] [(1, .int .i64 208), (2, pt p3 0), (4, pt p7 0)] (by kernel_rfl) (by kernel_rfl) rfl ?_
  refine GL.k rfl hK2 (fun _ _ h => h) ?_
  refine G.seqK fun K11 hK12 => ?_
  refine G.block ?_
  refine G.seqK fun K13 hK14 => ?_
  refine G.region ?_
  refine GL.run (j := 7) 7 [1, 2, 4, 9] [(1, .int .i64 208), (2, pt p3 0), (4, pt p7 0), (9, .bool false)] (by kernel_rfl) rfl ?_
  refine GL.k rfl hK14 (fun _ _ h => h) ?_
  refine G.no rfl ?_
  refine G.seqK fun K15 hK16 => ?_
  refine G.region ?_
  refine GL.run (j := 3) 3 [1, 2, 4, 17] [(1, .int .i64 208), (2, pt p3 0), (4, pt p7 0), (17, .bool false)] (by kernel_rfl) rfl ?_
  refine GL.k rfl hK16 (fun _ _ h => h) ?_
  refine G.no rfl ?_
  refine G.skipK hK12 (fun _ _ h => h) ?_
  refine G.seqK fun K17 hK18 => ?_
  refine G.region ?_
  obtain ⟨p19, w20, r21, H22⟩ := H10.alloc (P := Try.prog) 33 [.int .u64 0, .int .u64 0, .int .u64 0, .int .u64 0] (by kernel_rfl)
  have H22 : Hp w [] [.blk p3 [.int .u64 65535, .int .u64 0, .int .u64 0, .int .u64 0] 33, .blk p7 [.int .u64 0, .int .u64 0, .int .u64 0, .int .u64 0] 33, .blk p19 [.int .u64 0, .int .u64 0, .int .u64 0, .int .u64 0] 33] w20 := H22
  refine GL.sem (j := 1) (r21) [1, 2, 4, 5] [(1, .int .i64 208), (2, pt p3 0), (4, pt p7 0), (5, pt p19 0)] (by kernel_rfl) (by kernel_rfl) rfl ?_
  refine GL.k rfl hK18 (fun _ _ h => h) ?_
  refine G.seqK fun K23 hK24 => ?_
  refine G.region ?_
  refine GL.run (j := 6) 6 [2, 4, 5, 6, 7] [(2, pt p3 0), (4, pt p7 0), (5, pt p19 0), (6, .int .i64 3), (7, .int .i64 16)] (by kernel_rfl) rfl ?_
  refine GL.k rfl hK24 (fun _ _ h => h) ?_
  refine G.seqK fun K25 hK26 => ?_
  refine G.seqK fun K27 hK28 => ?_
  refine G.region ?_
  refine GL.run (j := 2) 2 [2, 4, 5, 6, 7, 8] [(2, pt p3 0), (4, pt p7 0), (5, pt p19 0), (6, .int .i64 3), (7, .int .i64 16), (8, .int .i64 3)] (by kernel_rfl) rfl ?_
  refine GL.k rfl hK28 (fun _ _ h => h) ?_
  refine G.block ?_
  refine G.unroll 70 ?_
  refine G.seqK fun K29 hK30 => ?_
  refine G.seqK fun K31 hK32 => ?_
  refine G.region ?_
  refine GL.run (j := 2) 2 [2, 4, 5, 6, 7, 8, 30] [(2, pt p3 0), (4, pt p7 0), (5, pt p19 0), (6, .int .i64 3), (7, .int .i64 16), (8, .int .i64 3), (30, .bool true)] (by kernel_rfl) rfl ?_
  refine GL.k rfl hK32 (fun _ _ h => h) ?_
  refine G.yes rfl ?_
  refine G.skipK hK30 (fun _ _ h => h) ?_
  refine G.seqK fun K33 hK34 => ?_
  refine G.block ?_
  refine G.seqK fun K35 hK36 => ?_
  refine G.region ?_
  refine GL.run (j := 5) 5 [2, 4, 5, 6, 7, 8, 33, 37] [(2, pt p3 0), (4, pt p7 0), (5, pt p19 0), (6, .int .i64 3), (7, .int .i64 16), (8, .int .i64 3), (33, .int .i64 3), (37, pt p3 0)] (by kernel_rfl) rfl ?_
  refine GL.sem (j := 6) (H22.ld (o := 0) (ty := 31) (v := .int .u64 65535) 0 rfl (by kernel_rfl) rfl) [2, 4, 5, 6, 7, 8, 33, 38] [(2, pt p3 0), (4, pt p7 0), (5, pt p19 0), (6, .int .i64 3), (7, .int .i64 16), (8, .int .i64 3), (33, .int .i64 3), (38, .int .u64 65535)] (by kernel_rfl) (by kernel_rfl) rfl ?_
  refine GL.run (j := 9) 3 [2, 4, 5, 6, 7, 8, 40, 41] [(2, pt p3 0), (4, pt p7 0), (5, pt p19 0), (6, .int .i64 3), (7, .int .i64 16), (8, .int .i64 3), (40, .int .u64 4294901760), (41, pt p19 3)] (by kernel_rfl) rfl ?_
  obtain ⟨w37, r38, H39⟩ := H22.st (P := Try.prog) (o := 3) (ty := 31) (v := .int .u64 4294901760) 2 rfl (by kernel_rfl) (by simp) rfl
  have H39 : Hp w [] [.blk p3 [.int .u64 65535, .int .u64 0, .int .u64 0, .int .u64 0] 33, .blk p7 [.int .u64 0, .int .u64 0, .int .u64 0, .int .u64 0] 33, .blk p19 [.int .u64 0, .int .u64 0, .int .u64 0, .int .u64 4294901760] 33] w37 := H39
  refine GL.semU (j := 10) r38 [2, 4, 5, 6, 7, 8] [(2, pt p3 0), (4, pt p7 0), (5, pt p19 0), (6, .int .i64 3), (7, .int .i64 16), (8, .int .i64 3)] (by kernel_rfl) rfl rfl rfl ?_
  refine GL.k rfl hK36 (fun _ _ h => h) ?_
  refine G.seqK fun K40 hK41 => ?_
  refine G.region ?_
  refine GL.run (j := 7) 7 [2, 4, 5, 6, 7, 8, 48] [(2, pt p3 0), (4, pt p7 0), (5, pt p19 0), (6, .int .i64 3), (7, .int .i64 16), (8, .int .i64 3), (48, .bool false)] (by kernel_rfl) rfl ?_
  refine GL.k rfl hK41 (fun _ _ h => h) ?_
  refine G.no rfl ?_
  refine G.skipK hK34 (fun _ _ h => h) ?_
  refine G.region ?_
  refine GL.run (j := 3) 3 [2, 4, 5, 6, 7, 8] [(2, pt p3 0), (4, pt p7 0), (5, pt p19 0), (6, .int .i64 3), (7, .int .i64 16), (8, .int .i64 4)] (by kernel_rfl) rfl ?_
  refine GL.round rfl ?_
  refine G.seqK fun K42 hK43 => ?_
  refine G.seqK fun K44 hK45 => ?_
  refine G.region ?_
  refine GL.run (j := 2) 2 [2, 4, 5, 6, 7, 8, 30] [(2, pt p3 0), (4, pt p7 0), (5, pt p19 0), (6, .int .i64 3), (7, .int .i64 16), (8, .int .i64 4), (30, .bool false)] (by kernel_rfl) rfl ?_
  refine GL.k rfl hK45 (fun _ _ h => h) ?_
  refine G.no rfl ?_
  refine G.exitK hK26 (fun _ _ h => h) ?_
  refine G.seqK fun K46 hK47 => ?_
  refine G.region ?_
  refine GL.sem (j := 1) (H39.ldA (o := 0) (ty := 33) (m := 4) (sub := [.int .u64 0, .int .u64 0, .int .u64 0, .int .u64 4294901760]) 2 rfl (by kernel_rfl) rfl rfl) [4, 63] [(4, pt p7 0), (63, .agg #[.int .u64 0, .int .u64 0, .int .u64 0, .int .u64 4294901760])] (by kernel_rfl) (by kernel_rfl) rfl ?_
  obtain ⟨w48, r49, H50⟩ := H39.stA (P := Try.prog) (o := 0) (vs := [.int .u64 0, .int .u64 0, .int .u64 0, .int .u64 4294901760]) (ty := 33) (m := 4) 1 rfl (by kernel_rfl) rfl (by simp) (by simp [Value.oneCell'])
  have H50 : Hp w [] [.blk p3 [.int .u64 65535, .int .u64 0, .int .u64 0, .int .u64 0] 33, .blk p7 [.int .u64 0, .int .u64 0, .int .u64 0, .int .u64 4294901760] 33, .blk p19 [.int .u64 0, .int .u64 0, .int .u64 0, .int .u64 4294901760] 33] w48 := H50
  refine GL.semU (j := 2) r49 [4] [(4, pt p7 0)] (by kernel_rfl) rfl rfl rfl ?_
  refine GL.k rfl hK47 (fun _ _ h => h) ?_
  refine G.ret ?_
  intro F_ hF_ hM_
  refine hRet _ _ (bodyPost_1 rfl (RV.cell rfl (H50.ldA (o := 0) (ty := 33) (m := 4) (sub := [.int .u64 0, .int .u64 0, .int .u64 0, .int .u64 4294901760]) 1 rfl (by kernel_rfl) rfl rfl)) ?_ F_ hF_ hM_)
  exact ⟨rfl, H50.sub (List.nil_sublist _)⟩
theorem Lit4_calls (w : World) : Calls Try.prog 33 #[.int .u32 486604799] w fun e w' => e = .returned (.tuple #[.agg #[.int .u64 0, .int .u64 0, .int .u64 0, .int .u64 4294901760], .int .i64 0]) ∧ Hp w [] [] w' := by
  refine calls_G (args := [.int .u32 486604799]) Try.func33 rfl Try.ntmps33 rfl ?_
  intro Q0 hRet hNor hPan
  have H := Hp.start w
  have H : Hp w [] [] w := H
  refine G.seqK fun K1 hK2 => ?_
  refine G.region ?_
  obtain ⟨p3, w4, r5, H6⟩ := H.alloc (P := Try.prog) 33 [.int .u64 0, .int .u64 0, .int .u64 0, .int .u64 0] (by kernel_rfl)
  have H6 : Hp w [] [.blk p3 [.int .u64 0, .int .u64 0, .int .u64 0, .int .u64 0] 33] w4 := H6
  refine GL.sem (j := 1) (r5) [0, 2] [(0, .int .u32 486604799), (2, pt p3 0)] (by kernel_rfl) (by kernel_rfl) rfl ?_
  refine GL.run (j := 2) 1 [0, 2] [(0, .int .u32 486604799), (2, pt p3 0)] (by kernel_rfl) rfl ?_
  refine GL.k rfl hK2 (fun _ _ h => h) ?_
  refine G.seqK fun K7 hK8 => ?_
  refine G.region ?_
  refine GL.run (j := 6) 6 [0, 2, 9, 12] [(0, .int .u32 486604799), (2, pt p3 0), (9, .int .i64 29), (12, .int .u64 65535)] (by kernel_rfl) rfl ?_
  refine GL.call (j := 7) (Lit0_calls w4) (by kernel_rfl) rfl (fun e_ w9 hR => ?_)
  obtain ⟨rfl, H11⟩ := hR
  have H10 : Hp w [] [.blk p3 [.int .u64 0, .int .u64 0, .int .u64 0, .int .u64 0] 33] w9 := H6.callNil H11
  refine ⟨_, rfl, [0, 2, 9, 13], [(0, .int .u32 486604799), (2, pt p3 0), (9, .int .i64 29), (13, .agg #[.int .u64 65535, .int .u64 0, .int .u64 0, .int .u64 0])], by kernel_rfl, ?_⟩
  obtain ⟨p12, w13, r14, H15⟩ := H10.alloc (P := Try.prog) 33 [.int .u64 0, .int .u64 0, .int .u64 0, .int .u64 0] (by kernel_rfl)
  have H15 : Hp w [] [.blk p3 [.int .u64 0, .int .u64 0, .int .u64 0, .int .u64 0] 33, .blk p12 [.int .u64 0, .int .u64 0, .int .u64 0, .int .u64 0] 33] w13 := H15
  refine GL.sem (j := 8) (r14) [0, 2, 5, 9, 13] [(0, .int .u32 486604799), (2, pt p3 0), (5, pt p12 0), (9, .int .i64 29), (13, .agg #[.int .u64 65535, .int .u64 0, .int .u64 0, .int .u64 0])] (by kernel_rfl) (by kernel_rfl) rfl ?_
  refine GL.run (j := 9) 1 [0, 2, 4, 5, 13] [(0, .int .u32 486604799), (2, pt p3 0), (4, .int .i64 29), (5, pt p12 0), (13, .agg #[.int .u64 65535, .int .u64 0, .int .u64 0, .int .u64 0])] (by kernel_rfl) rfl ?_
  obtain ⟨w16, r17, H18⟩ := H15.stA (P := Try.prog) (o := 0) (vs := [.int .u64 65535, .int .u64 0, .int .u64 0, .int .u64 0]) (ty := 33) (m := 4) 1 rfl (by kernel_rfl) rfl (by simp) (by simp [Value.oneCell'])
  have H18 : Hp w [] [.blk p3 [.int .u64 0, .int .u64 0, .int .u64 0, .int .u64 0] 33, .blk p12 [.int .u64 65535, .int .u64 0, .int .u64 0, .int .u64 0] 33] w16 := H18
  refine GL.semU (j := 10) r17 [0, 2, 4, 5] [(0, .int .u32 486604799), (2, pt p3 0), (4, .int .i64 29), (5, pt p12 0)] (by kernel_rfl) rfl rfl rfl ?_
  refine GL.k rfl hK8 (fun _ _ h => h) ?_
  refine G.seqK fun K19 hK20 => ?_
  refine G.seqK fun K21 hK22 => ?_
  refine G.region ?_
  refine GL.run (j := 8) 8 [2, 4, 5, 21] [(2, pt p3 0), (4, .int .i64 29), (5, pt p12 0), (21, .bool false)] (by kernel_rfl) rfl ?_
  refine GL.k rfl hK22 (fun _ _ h => h) ?_
  refine G.no rfl ?_
  refine G.skipK hK20 (fun _ _ h => h) ?_
  refine G.seqK fun K23 hK24 => ?_
  refine G.seqK fun K25 hK26 => ?_
  refine G.region ?_
  refine GL.run (j := 3) 3 [2, 4, 5, 25] [(2, pt p3 0), (4, .int .i64 29), (5, pt p12 0), (25, .bool true)] (by kernel_rfl) rfl ?_
  refine GL.sem (j := 4) (H18.ldA (o := 0) (ty := 33) (m := 4) (sub := [.int .u64 65535, .int .u64 0, .int .u64 0, .int .u64 0]) 1 rfl (by kernel_rfl) rfl rfl) [2, 4, 5, 25, 26] [(2, pt p3 0), (4, .int .i64 29), (5, pt p12 0), (25, .bool true), (26, .agg #[.int .u64 65535, .int .u64 0, .int .u64 0, .int .u64 0])] (by kernel_rfl) (by kernel_rfl) rfl ?_
  refine GL.call (j := 5) (Lit2_calls w16) (by kernel_rfl) rfl (fun e_ w27 hR => ?_)
  obtain ⟨rfl, H29⟩ := hR
  have H28 : Hp w [] [.blk p3 [.int .u64 0, .int .u64 0, .int .u64 0, .int .u64 0] 33, .blk p12 [.int .u64 65535, .int .u64 0, .int .u64 0, .int .u64 0] 33] w27 := H18.callNil H29
  refine ⟨_, rfl, [2, 4, 5, 25, 27], [(2, pt p3 0), (4, .int .i64 29), (5, pt p12 0), (25, .bool true), (27, .int .i64 16)], by kernel_rfl, ?_⟩
  refine GL.run (j := 11) 6 [2, 4, 5, 33] [(2, pt p3 0), (4, .int .i64 29), (5, pt p12 0), (33, .bool false)] (by kernel_rfl) rfl ?_
  refine GL.k rfl hK26 (fun _ _ h => h) ?_
  refine G.no rfl ?_
  refine G.skipK hK24 (fun _ _ h => h) ?_
  refine G.seqK fun K30 hK31 => ?_
  refine G.region ?_
  refine GL.sem (j := 1) (H28.ldA (o := 0) (ty := 33) (m := 4) (sub := [.int .u64 65535, .int .u64 0, .int .u64 0, .int .u64 0]) 1 rfl (by kernel_rfl) rfl rfl) [2, 4, 35] [(2, pt p3 0), (4, .int .i64 29), (35, .agg #[.int .u64 65535, .int .u64 0, .int .u64 0, .int .u64 0])] (by kernel_rfl) (by kernel_rfl) rfl ?_
  refine GL.run (j := 4) 3 [2, 35, 38] [(2, pt p3 0), (35, .agg #[.int .u64 65535, .int .u64 0, .int .u64 0, .int .u64 0]), (38, .int .i64 208)] (by kernel_rfl) rfl ?_
  refine GL.call (j := 5) (Lit3_calls w27) (by kernel_rfl) rfl (fun e_ w32 hR => ?_)
  obtain ⟨rfl, H34⟩ := hR
  have H33 : Hp w [] [.blk p3 [.int .u64 0, .int .u64 0, .int .u64 0, .int .u64 0] 33, .blk p12 [.int .u64 65535, .int .u64 0, .int .u64 0, .int .u64 0] 33] w32 := H28.callNil H34
  refine ⟨_, rfl, [2, 39], [(2, pt p3 0), (39, .agg #[.int .u64 0, .int .u64 0, .int .u64 0, .int .u64 4294901760])], by kernel_rfl, ?_⟩
  obtain ⟨p35, w36, r37, H38⟩ := H33.alloc (P := Try.prog) 33 [.int .u64 0, .int .u64 0, .int .u64 0, .int .u64 0] (by kernel_rfl)
  have H38 : Hp w [] [.blk p3 [.int .u64 0, .int .u64 0, .int .u64 0, .int .u64 0] 33, .blk p12 [.int .u64 65535, .int .u64 0, .int .u64 0, .int .u64 0] 33, .blk p35 [.int .u64 0, .int .u64 0, .int .u64 0, .int .u64 0] 33] w36 := H38
  refine GL.sem (j := 6) (r37) [2, 6, 39] [(2, pt p3 0), (6, pt p35 0), (39, .agg #[.int .u64 0, .int .u64 0, .int .u64 0, .int .u64 4294901760])] (by kernel_rfl) (by kernel_rfl) rfl ?_
  obtain ⟨w39, r40, H41⟩ := H38.stA (P := Try.prog) (o := 0) (vs := [.int .u64 0, .int .u64 0, .int .u64 0, .int .u64 4294901760]) (ty := 33) (m := 4) 2 rfl (by kernel_rfl) rfl (by simp) (by simp [Value.oneCell'])
  have H41 : Hp w [] [.blk p3 [.int .u64 0, .int .u64 0, .int .u64 0, .int .u64 0] 33, .blk p12 [.int .u64 65535, .int .u64 0, .int .u64 0, .int .u64 0] 33, .blk p35 [.int .u64 0, .int .u64 0, .int .u64 0, .int .u64 4294901760] 33] w39 := H41
  refine GL.semU (j := 7) r40 [2, 6] [(2, pt p3 0), (6, pt p35 0)] (by kernel_rfl) rfl rfl rfl ?_
  refine GL.k rfl hK31 (fun _ _ h => h) ?_
  refine G.seqK fun K42 hK43 => ?_
  refine G.seqK fun K44 hK45 => ?_
  refine G.region ?_
  refine GL.sem (j := 1) (H41.ldA (o := 0) (ty := 33) (m := 4) (sub := [.int .u64 0, .int .u64 0, .int .u64 0, .int .u64 4294901760]) 2 rfl (by kernel_rfl) rfl rfl) [2, 6, 40] [(2, pt p3 0), (6, pt p35 0), (40, .agg #[.int .u64 0, .int .u64 0, .int .u64 0, .int .u64 4294901760])] (by kernel_rfl) (by kernel_rfl) rfl ?_
  refine GL.run (j := 2) 1 [2, 6, 40, 41] [(2, pt p3 0), (6, pt p35 0), (40, .agg #[.int .u64 0, .int .u64 0, .int .u64 0, .int .u64 4294901760]), (41, .agg #[.int .u64 0, .int .u64 0, .int .u64 0, .int .u64 0])] (by kernel_rfl) rfl ?_
  refine GL.sem (j := 3) (run_arr_eql (P := Try.prog) (t := 33) (n := 4) (k := .u64) (x := (.tmp 40)) (y := (.tmp 41)) (by kernel_rfl) [0, 0, 0, 4294901760] [0, 0, 0, 0] rfl rfl _) [2, 6, 42] [(2, pt p3 0), (6, pt p35 0), (42, .bool false)] (by kernel_rfl) (by kernel_rfl) rfl ?_
  refine GL.k rfl hK45 (fun _ _ h => h) ?_
  refine G.no rfl ?_
  refine G.skipK hK43 (fun _ _ h => h) ?_
  refine G.seqK fun K46 hK47 => ?_
  refine G.region ?_
  refine GL.sem (j := 1) (H41.ldA (o := 0) (ty := 33) (m := 4) (sub := [.int .u64 0, .int .u64 0, .int .u64 0, .int .u64 4294901760]) 2 rfl (by kernel_rfl) rfl rfl) [2, 44] [(2, pt p3 0), (44, .agg #[.int .u64 0, .int .u64 0, .int .u64 0, .int .u64 4294901760])] (by kernel_rfl) (by kernel_rfl) rfl ?_
  obtain ⟨w48, r49, H50⟩ := H41.stA (P := Try.prog) (o := 0) (vs := [.int .u64 0, .int .u64 0, .int .u64 0, .int .u64 4294901760]) (ty := 33) (m := 4) 0 rfl (by kernel_rfl) rfl (by simp) (by simp [Value.oneCell'])
  have H50 : Hp w [] [.blk p3 [.int .u64 0, .int .u64 0, .int .u64 0, .int .u64 4294901760] 33, .blk p12 [.int .u64 65535, .int .u64 0, .int .u64 0, .int .u64 0] 33, .blk p35 [.int .u64 0, .int .u64 0, .int .u64 0, .int .u64 4294901760] 33] w48 := H50
  refine GL.semU (j := 2) r49 [2] [(2, pt p3 0)] (by kernel_rfl) rfl rfl rfl ?_
  refine GL.run (j := 3) 1 [2, 3] [(2, pt p3 0), (3, .int .i64 0)] (by kernel_rfl) rfl ?_
  refine GL.k rfl hK47 (fun _ _ h => h) ?_
  refine G.ret ?_
  intro F_ hF_ hM_
  refine hRet _ _ (bodyPost_2 rfl (RV.cell rfl (H50.ldA (o := 0) (ty := 33) (m := 4) (sub := [.int .u64 0, .int .u64 0, .int .u64 0, .int .u64 4294901760]) 0 rfl (by kernel_rfl) rfl rfl)) (RV.tmp rfl) ?_ F_ hF_ hM_)
  exact ⟨rfl, H50.sub (List.nil_sublist _)⟩
theorem Lit5_calls (w : World) : Calls Try.prog 34 #[.agg #[.int .u64 0, .int .u64 0, .int .u64 0, .int .u64 4294901760], .agg #[.int .u64 18446744073709551615, .int .u64 18446744073709551615, .int .u64 18446744073709551615, .int .u64 18446744073709551615]] w fun e w' => e = .returned (.int .i64 (-1)) ∧ Hp w [] [] w' := by
  refine calls_G (args := [.agg #[.int .u64 0, .int .u64 0, .int .u64 0, .int .u64 4294901760], .agg #[.int .u64 18446744073709551615, .int .u64 18446744073709551615, .int .u64 18446744073709551615, .int .u64 18446744073709551615]]) Try.func34 rfl Try.ntmps34 rfl ?_
  intro Q0 hRet hNor hPan
  have H := Hp.start w
  have H : Hp w [] [] w := H
  refine G.seqK fun K1 hK2 => ?_
  refine G.region ?_
  obtain ⟨p3, w4, r5, H6⟩ := H.box (P := Try.prog) 33 [.int .u64 0, .int .u64 0, .int .u64 0, .int .u64 4294901760] (.agg #[.int .u64 0, .int .u64 0, .int .u64 0, .int .u64 4294901760]) rfl
  have H6 : Hp w [] [.blk p3 [.int .u64 0, .int .u64 0, .int .u64 0, .int .u64 4294901760] 33] w4 := H6
  refine GL.sem (j := 1) (r5) [1, 2] [(1, .agg #[.int .u64 18446744073709551615, .int .u64 18446744073709551615, .int .u64 18446744073709551615, .int .u64 18446744073709551615]), (2, pt p3 0)] (by kernel_rfl) (by kernel_rfl) rfl ?_
  obtain ⟨p7, w8, r9, H10⟩ := H6.box (P := Try.prog) 33 [.int .u64 18446744073709551615, .int .u64 18446744073709551615, .int .u64 18446744073709551615, .int .u64 18446744073709551615] (.agg #[.int .u64 18446744073709551615, .int .u64 18446744073709551615, .int .u64 18446744073709551615, .int .u64 18446744073709551615]) rfl
  have H10 : Hp w [] [.blk p3 [.int .u64 0, .int .u64 0, .int .u64 0, .int .u64 4294901760] 33, .blk p7 [.int .u64 18446744073709551615, .int .u64 18446744073709551615, .int .u64 18446744073709551615, .int .u64 18446744073709551615] 33] w8 := H10
  refine GL.sem (j := 2) (r9) [2, 3] [(2, pt p3 0), (3, pt p7 0)] (by kernel_rfl) (by kernel_rfl) rfl ?_
  refine GL.run (j := 3) 1 [2, 3] [(2, pt p3 0), (3, pt p7 0)] (by kernel_rfl) rfl ?_
  refine GL.k rfl hK2 (fun _ _ h => h) ?_
  refine G.seqK fun K11 hK12 => ?_
  refine G.seqK fun K13 hK14 => ?_
  refine G.region ?_
  refine GL.run (j := 1) 1 [2, 3, 5] [(2, pt p3 0), (3, pt p7 0), (5, .int .i64 3)] (by kernel_rfl) rfl ?_
  refine GL.k rfl hK14 (fun _ _ h => h) ?_
  refine G.block ?_
  refine G.unroll 70 ?_
  refine G.seqK fun K15 hK16 => ?_
  refine G.seqK fun K17 hK18 => ?_
  refine G.region ?_
  refine GL.run (j := 2) 2 [2, 3, 5, 7] [(2, pt p3 0), (3, pt p7 0), (5, .int .i64 3), (7, .bool true)] (by kernel_rfl) rfl ?_
  refine GL.k rfl hK18 (fun _ _ h => h) ?_
  refine G.yes rfl ?_
  refine G.skipK hK16 (fun _ _ h => h) ?_
  refine G.seqK fun K19 hK20 => ?_
  refine G.block ?_
  refine G.block ?_
  refine G.seqK fun K21 hK22 => ?_
  refine G.draw H10 (by kernel_rfl) (by kernel_rfl) ?_
  refine GQ.run (j := 2) 2 [2, 3, 5, 12] [(2, pt p3 0), (3, pt p7 0), (5, .int .i64 3), (12, pt p3 3)] (by kernel_rfl) rfl ?_
  refine GQ.sem (j := 3) (fun w_ H_ => H_.ld (o := 3) (ty := 31) (v := .int .u64 4294901760) 0 rfl (by kernel_rfl) rfl) [2, 3, 5, 13] [(2, pt p3 0), (3, pt p7 0), (5, .int .i64 3), (13, .int .u64 4294901760)] (by kernel_rfl) (by kernel_rfl) rfl ?_
  refine GQ.run (j := 5) 2 [2, 3, 5, 13, 15] [(2, pt p3 0), (3, pt p7 0), (5, .int .i64 3), (13, .int .u64 4294901760), (15, pt p7 3)] (by kernel_rfl) rfl ?_
  refine GQ.sem (j := 6) (fun w_ H_ => H_.ld (o := 3) (ty := 31) (v := .int .u64 18446744073709551615) 1 rfl (by kernel_rfl) rfl) [2, 3, 5, 13, 16] [(2, pt p3 0), (3, pt p7 0), (5, .int .i64 3), (13, .int .u64 4294901760), (16, .int .u64 18446744073709551615)] (by kernel_rfl) (by kernel_rfl) rfl ?_
  refine GQ.run (j := 8) 2 [2, 3, 5, 10] [(2, pt p3 0), (3, pt p7 0), (5, .int .i64 3), (10, .bool true)] (by kernel_rfl) rfl ?_
  refine GQ.k rfl hK22 (fun _ _ h => h) (fun w23 H24 => ?_)
  refine G.yes rfl ?_
  refine G.seqK fun K25 hK26 => ?_
  refine G.region ?_
  refine GL.run (j := 1) 1 [4] [(4, .int .i64 (-1))] (by kernel_rfl) rfl ?_
  refine GL.k rfl hK26 (fun _ _ h => h) ?_
  refine G.ret ?_
  intro F_ hF_ hM_
  refine hRet _ _ (bodyPost_1 rfl (RV.tmp rfl) ?_ F_ hF_ hM_)
  exact ⟨rfl, H24.sub (List.nil_sublist _)⟩
theorem Lit6_calls (w : World) : Calls Try.prog 34 #[.agg #[.int .u64 8265215505318339183, .int .u64 5762183848404362945, .int .u64 11243336393847676563, .int .u64 1693288], .agg #[.int .u64 0, .int .u64 0, .int .u64 0, .int .u64 4294901760]] w fun e w' => e = .returned (.int .i64 (-1)) ∧ Hp w [] [] w' := by
  refine calls_G (args := [.agg #[.int .u64 8265215505318339183, .int .u64 5762183848404362945, .int .u64 11243336393847676563, .int .u64 1693288], .agg #[.int .u64 0, .int .u64 0, .int .u64 0, .int .u64 4294901760]]) Try.func34 rfl Try.ntmps34 rfl ?_
  intro Q0 hRet hNor hPan
  have H := Hp.start w
  have H : Hp w [] [] w := H
  refine G.seqK fun K1 hK2 => ?_
  refine G.region ?_
  obtain ⟨p3, w4, r5, H6⟩ := H.box (P := Try.prog) 33 [.int .u64 8265215505318339183, .int .u64 5762183848404362945, .int .u64 11243336393847676563, .int .u64 1693288] (.agg #[.int .u64 8265215505318339183, .int .u64 5762183848404362945, .int .u64 11243336393847676563, .int .u64 1693288]) rfl
  have H6 : Hp w [] [.blk p3 [.int .u64 8265215505318339183, .int .u64 5762183848404362945, .int .u64 11243336393847676563, .int .u64 1693288] 33] w4 := H6
  refine GL.sem (j := 1) (r5) [1, 2] [(1, .agg #[.int .u64 0, .int .u64 0, .int .u64 0, .int .u64 4294901760]), (2, pt p3 0)] (by kernel_rfl) (by kernel_rfl) rfl ?_
  obtain ⟨p7, w8, r9, H10⟩ := H6.box (P := Try.prog) 33 [.int .u64 0, .int .u64 0, .int .u64 0, .int .u64 4294901760] (.agg #[.int .u64 0, .int .u64 0, .int .u64 0, .int .u64 4294901760]) rfl
  have H10 : Hp w [] [.blk p3 [.int .u64 8265215505318339183, .int .u64 5762183848404362945, .int .u64 11243336393847676563, .int .u64 1693288] 33, .blk p7 [.int .u64 0, .int .u64 0, .int .u64 0, .int .u64 4294901760] 33] w8 := H10
  refine GL.sem (j := 2) (r9) [2, 3] [(2, pt p3 0), (3, pt p7 0)] (by kernel_rfl) (by kernel_rfl) rfl ?_
  refine GL.run (j := 3) 1 [2, 3] [(2, pt p3 0), (3, pt p7 0)] (by kernel_rfl) rfl ?_
  refine GL.k rfl hK2 (fun _ _ h => h) ?_
  refine G.seqK fun K11 hK12 => ?_
  refine G.seqK fun K13 hK14 => ?_
  refine G.region ?_
  refine GL.run (j := 1) 1 [2, 3, 5] [(2, pt p3 0), (3, pt p7 0), (5, .int .i64 3)] (by kernel_rfl) rfl ?_
  refine GL.k rfl hK14 (fun _ _ h => h) ?_
  refine G.block ?_
  refine G.unroll 70 ?_
  refine G.seqK fun K15 hK16 => ?_
  refine G.seqK fun K17 hK18 => ?_
  refine G.region ?_
  refine GL.run (j := 2) 2 [2, 3, 5, 7] [(2, pt p3 0), (3, pt p7 0), (5, .int .i64 3), (7, .bool true)] (by kernel_rfl) rfl ?_
  refine GL.k rfl hK18 (fun _ _ h => h) ?_
  refine G.yes rfl ?_
  refine G.skipK hK16 (fun _ _ h => h) ?_
  refine G.seqK fun K19 hK20 => ?_
  refine G.block ?_
  refine G.block ?_
  refine G.seqK fun K21 hK22 => ?_
  refine G.draw H10 (by kernel_rfl) (by kernel_rfl) ?_
  refine GQ.run (j := 2) 2 [2, 3, 5, 12] [(2, pt p3 0), (3, pt p7 0), (5, .int .i64 3), (12, pt p3 3)] (by kernel_rfl) rfl ?_
  refine GQ.sem (j := 3) (fun w_ H_ => H_.ld (o := 3) (ty := 31) (v := .int .u64 1693288) 0 rfl (by kernel_rfl) rfl) [2, 3, 5, 13] [(2, pt p3 0), (3, pt p7 0), (5, .int .i64 3), (13, .int .u64 1693288)] (by kernel_rfl) (by kernel_rfl) rfl ?_
  refine GQ.run (j := 5) 2 [2, 3, 5, 13, 15] [(2, pt p3 0), (3, pt p7 0), (5, .int .i64 3), (13, .int .u64 1693288), (15, pt p7 3)] (by kernel_rfl) rfl ?_
  refine GQ.sem (j := 6) (fun w_ H_ => H_.ld (o := 3) (ty := 31) (v := .int .u64 4294901760) 1 rfl (by kernel_rfl) rfl) [2, 3, 5, 13, 16] [(2, pt p3 0), (3, pt p7 0), (5, .int .i64 3), (13, .int .u64 1693288), (16, .int .u64 4294901760)] (by kernel_rfl) (by kernel_rfl) rfl ?_
  refine GQ.run (j := 8) 2 [2, 3, 5, 10] [(2, pt p3 0), (3, pt p7 0), (5, .int .i64 3), (10, .bool true)] (by kernel_rfl) rfl ?_
  refine GQ.k rfl hK22 (fun _ _ h => h) (fun w23 H24 => ?_)
  refine G.yes rfl ?_
  refine G.seqK fun K25 hK26 => ?_
  refine G.region ?_
  refine GL.run (j := 1) 1 [4] [(4, .int .i64 (-1))] (by kernel_rfl) rfl ?_
  refine GL.k rfl hK26 (fun _ _ h => h) ?_
  refine G.ret ?_
  intro F_ hF_ hM_
  refine hRet _ _ (bodyPost_1 rfl (RV.tmp rfl) ?_ F_ hF_ hM_)
  exact ⟨rfl, H24.sub (List.nil_sublist _)⟩
theorem Lit7_calls (w : World) : Calls Try.prog 35 #[.agg #[.int .u8 111, .int .u8 226, .int .u8 140, .int .u8 10, .int .u8 182, .int .u8 241, .int .u8 179, .int .u8 114, .int .u8 193, .int .u8 166, .int .u8 162, .int .u8 70, .int .u8 174, .int .u8 99, .int .u8 247, .int .u8 79, .int .u8 147, .int .u8 30, .int .u8 131, .int .u8 101, .int .u8 225, .int .u8 90, .int .u8 8, .int .u8 156, .int .u8 104, .int .u8 214, .int .u8 25, .int .u8 0, .int .u8 0, .int .u8 0, .int .u8 0, .int .u8 0], .agg #[.int .u64 0, .int .u64 0, .int .u64 0, .int .u64 4294901760]] w fun e w' => e = .returned (.bool true) ∧ Hp w [] [] w' := by
  refine calls_G (args := [.agg #[.int .u8 111, .int .u8 226, .int .u8 140, .int .u8 10, .int .u8 182, .int .u8 241, .int .u8 179, .int .u8 114, .int .u8 193, .int .u8 166, .int .u8 162, .int .u8 70, .int .u8 174, .int .u8 99, .int .u8 247, .int .u8 79, .int .u8 147, .int .u8 30, .int .u8 131, .int .u8 101, .int .u8 225, .int .u8 90, .int .u8 8, .int .u8 156, .int .u8 104, .int .u8 214, .int .u8 25, .int .u8 0, .int .u8 0, .int .u8 0, .int .u8 0, .int .u8 0], .agg #[.int .u64 0, .int .u64 0, .int .u64 0, .int .u64 4294901760]]) Try.func35 rfl Try.ntmps35 rfl ?_
  intro Q0 hRet hNor hPan
  have H := Hp.start w
  have H : Hp w [] [] w := H
  refine G.seqK fun K1 hK2 => ?_
  refine G.region ?_
  obtain ⟨p3, w4, r5, H6⟩ := H.box (P := Try.prog) 24 [.int .u8 111, .int .u8 226, .int .u8 140, .int .u8 10, .int .u8 182, .int .u8 241, .int .u8 179, .int .u8 114, .int .u8 193, .int .u8 166, .int .u8 162, .int .u8 70, .int .u8 174, .int .u8 99, .int .u8 247, .int .u8 79, .int .u8 147, .int .u8 30, .int .u8 131, .int .u8 101, .int .u8 225, .int .u8 90, .int .u8 8, .int .u8 156, .int .u8 104, .int .u8 214, .int .u8 25, .int .u8 0, .int .u8 0, .int .u8 0, .int .u8 0, .int .u8 0] (.agg #[.int .u8 111, .int .u8 226, .int .u8 140, .int .u8 10, .int .u8 182, .int .u8 241, .int .u8 179, .int .u8 114, .int .u8 193, .int .u8 166, .int .u8 162, .int .u8 70, .int .u8 174, .int .u8 99, .int .u8 247, .int .u8 79, .int .u8 147, .int .u8 30, .int .u8 131, .int .u8 101, .int .u8 225, .int .u8 90, .int .u8 8, .int .u8 156, .int .u8 104, .int .u8 214, .int .u8 25, .int .u8 0, .int .u8 0, .int .u8 0, .int .u8 0, .int .u8 0]) rfl
  have H6 : Hp w [] [.blk p3 [.int .u8 111, .int .u8 226, .int .u8 140, .int .u8 10, .int .u8 182, .int .u8 241, .int .u8 179, .int .u8 114, .int .u8 193, .int .u8 166, .int .u8 162, .int .u8 70, .int .u8 174, .int .u8 99, .int .u8 247, .int .u8 79, .int .u8 147, .int .u8 30, .int .u8 131, .int .u8 101, .int .u8 225, .int .u8 90, .int .u8 8, .int .u8 156, .int .u8 104, .int .u8 214, .int .u8 25, .int .u8 0, .int .u8 0, .int .u8 0, .int .u8 0, .int .u8 0] 24] w4 := H6
  refine GL.sem (j := 1) (r5) [1, 2] [(1, .agg #[.int .u64 0, .int .u64 0, .int .u64 0, .int .u64 4294901760]), (2, pt p3 0)] (by kernel_rfl) (by kernel_rfl) rfl ?_
  obtain ⟨p7, w8, r9, H10⟩ := H6.box (P := Try.prog) 33 [.int .u64 0, .int .u64 0, .int .u64 0, .int .u64 4294901760] (.agg #[.int .u64 0, .int .u64 0, .int .u64 0, .int .u64 4294901760]) rfl
  have H10 : Hp w [] [.blk p3 [.int .u8 111, .int .u8 226, .int .u8 140, .int .u8 10, .int .u8 182, .int .u8 241, .int .u8 179, .int .u8 114, .int .u8 193, .int .u8 166, .int .u8 162, .int .u8 70, .int .u8 174, .int .u8 99, .int .u8 247, .int .u8 79, .int .u8 147, .int .u8 30, .int .u8 131, .int .u8 101, .int .u8 225, .int .u8 90, .int .u8 8, .int .u8 156, .int .u8 104, .int .u8 214, .int .u8 25, .int .u8 0, .int .u8 0, .int .u8 0, .int .u8 0, .int .u8 0] 24, .blk p7 [.int .u64 0, .int .u64 0, .int .u64 0, .int .u64 4294901760] 33] w8 := H10
  refine GL.sem (j := 2) (r9) [2, 3] [(2, pt p3 0), (3, pt p7 0)] (by kernel_rfl) (by kernel_rfl) rfl ?_
  refine GL.run (j := 3) 1 [2, 3] [(2, pt p3 0), (3, pt p7 0)] (by kernel_rfl) rfl ?_
  refine GL.k rfl hK2 (fun _ _ h => h) ?_
  refine G.seqK fun K11 hK12 => ?_
  refine G.heldP (Hp w [] [.blk p3 [.int .u8 111, .int .u8 226, .int .u8 140, .int .u8 10, .int .u8 182, .int .u8 241, .int .u8 179, .int .u8 114, .int .u8 193, .int .u8 166, .int .u8 162, .int .u8 70, .int .u8 174, .int .u8 99, .int .u8 247, .int .u8 79, .int .u8 147, .int .u8 30, .int .u8 131, .int .u8 101, .int .u8 225, .int .u8 90, .int .u8 8, .int .u8 156, .int .u8 104, .int .u8 214, .int .u8 25, .int .u8 0, .int .u8 0, .int .u8 0, .int .u8 0, .int .u8 0] 24, .blk p7 [.int .u64 0, .int .u64 0, .int .u64 0, .int .u64 4294901760] 33]) (by kernel_rfl) (by kernel_rfl) (fun c_ a_ d_ v_ w_ h_ => hPan c_ a_ d_ v_ w_ h_) ?_
  have H13 := H10.drew
  generalize ({ w8 with drawn := w8.drawn + 1 } : World) = w14 at H13 ⊢
  have hS15 : Hp w [] [.blk p3 [.int .u8 111, .int .u8 226, .int .u8 140, .int .u8 10, .int .u8 182, .int .u8 241, .int .u8 179, .int .u8 114, .int .u8 193, .int .u8 166, .int .u8 162, .int .u8 70, .int .u8 174, .int .u8 99, .int .u8 247, .int .u8 79, .int .u8 147, .int .u8 30, .int .u8 131, .int .u8 101, .int .u8 225, .int .u8 90, .int .u8 8, .int .u8 156, .int .u8 104, .int .u8 214, .int .u8 25, .int .u8 0, .int .u8 0, .int .u8 0, .int .u8 0, .int .u8 0] 24, .blk p7 [.int .u64 0, .int .u64 0, .int .u64 0, .int .u64 4294901760] 33] w14 := H13.sub (List.Sublist.cons_cons _ (List.Sublist.cons_cons _ (List.Sublist.slnil)))
  refine GP.sem 0 (fun w_ H_ => H_.ldA (o := 0) (ty := 24) (m := 32) (sub := [.int .u8 111, .int .u8 226, .int .u8 140, .int .u8 10, .int .u8 182, .int .u8 241, .int .u8 179, .int .u8 114, .int .u8 193, .int .u8 166, .int .u8 162, .int .u8 70, .int .u8 174, .int .u8 99, .int .u8 247, .int .u8 79, .int .u8 147, .int .u8 30, .int .u8 131, .int .u8 101, .int .u8 225, .int .u8 90, .int .u8 8, .int .u8 156, .int .u8 104, .int .u8 214, .int .u8 25, .int .u8 0, .int .u8 0, .int .u8 0, .int .u8 0, .int .u8 0]) 0 rfl (by kernel_rfl) rfl rfl) [3, 5] [(3, pt p7 0), (5, .agg #[.int .u8 111, .int .u8 226, .int .u8 140, .int .u8 10, .int .u8 182, .int .u8 241, .int .u8 179, .int .u8 114, .int .u8 193, .int .u8 166, .int .u8 162, .int .u8 70, .int .u8 174, .int .u8 99, .int .u8 247, .int .u8 79, .int .u8 147, .int .u8 30, .int .u8 131, .int .u8 101, .int .u8 225, .int .u8 90, .int .u8 8, .int .u8 156, .int .u8 104, .int .u8 214, .int .u8 25, .int .u8 0, .int .u8 0, .int .u8 0, .int .u8 0, .int .u8 0])] (by kernel_rfl) (by kernel_rfl) (by kernel_rfl) hS15 ?_
  refine GP.sem 2 (fun w_ H_ => H_.ldA (o := 0) (ty := 33) (m := 4) (sub := [.int .u64 0, .int .u64 0, .int .u64 0, .int .u64 4294901760]) 1 rfl (by kernel_rfl) rfl rfl) [5, 7] [(5, .agg #[.int .u8 111, .int .u8 226, .int .u8 140, .int .u8 10, .int .u8 182, .int .u8 241, .int .u8 179, .int .u8 114, .int .u8 193, .int .u8 166, .int .u8 162, .int .u8 70, .int .u8 174, .int .u8 99, .int .u8 247, .int .u8 79, .int .u8 147, .int .u8 30, .int .u8 131, .int .u8 101, .int .u8 225, .int .u8 90, .int .u8 8, .int .u8 156, .int .u8 104, .int .u8 214, .int .u8 25, .int .u8 0, .int .u8 0, .int .u8 0, .int .u8 0, .int .u8 0]), (7, .agg #[.int .u64 0, .int .u64 0, .int .u64 0, .int .u64 4294901760])] (by kernel_rfl) (by kernel_rfl) (by kernel_rfl) hS15 ?_
  refine GP.call 1 ((by have h_ := FromBytes_calls (fun i => (([111, 226, 140, 10, 182, 241, 179, 114, 193, 166, 162, 70, 174, 99, 247, 79, 147, 30, 131, 101, 225, 90, 8, 156, 104, 214, 25, 0, 0, 0, 0, 0] : List UInt8).getD i 0).toNat) (fun i => UInt8.toNat_lt _) w14; rw [first_num] at h_; exact h_)) (by kernel_rfl) (by kernel_rfl) (fun e_ w16 hR => ?_)
  obtain ⟨rfl, H18⟩ := hR
  have H17 : Hp w [] [.blk p3 [.int .u8 111, .int .u8 226, .int .u8 140, .int .u8 10, .int .u8 182, .int .u8 241, .int .u8 179, .int .u8 114, .int .u8 193, .int .u8 166, .int .u8 162, .int .u8 70, .int .u8 174, .int .u8 99, .int .u8 247, .int .u8 79, .int .u8 147, .int .u8 30, .int .u8 131, .int .u8 101, .int .u8 225, .int .u8 90, .int .u8 8, .int .u8 156, .int .u8 104, .int .u8 214, .int .u8 25, .int .u8 0, .int .u8 0, .int .u8 0, .int .u8 0, .int .u8 0] 24, .blk p7 [.int .u64 0, .int .u64 0, .int .u64 0, .int .u64 4294901760] 33] w16 := H13.callNil H18
  have hS19 : Hp w [] [.blk p3 [.int .u8 111, .int .u8 226, .int .u8 140, .int .u8 10, .int .u8 182, .int .u8 241, .int .u8 179, .int .u8 114, .int .u8 193, .int .u8 166, .int .u8 162, .int .u8 70, .int .u8 174, .int .u8 99, .int .u8 247, .int .u8 79, .int .u8 147, .int .u8 30, .int .u8 131, .int .u8 101, .int .u8 225, .int .u8 90, .int .u8 8, .int .u8 156, .int .u8 104, .int .u8 214, .int .u8 25, .int .u8 0, .int .u8 0, .int .u8 0, .int .u8 0, .int .u8 0] 24, .blk p7 [.int .u64 0, .int .u64 0, .int .u64 0, .int .u64 4294901760] 33] w16 := H17.sub (List.Sublist.cons_cons _ (List.Sublist.cons_cons _ (List.Sublist.slnil)))
  refine ⟨_, rfl, hS19, [6, 7], [(6, .agg #[.int .u64 8265215505318339183, .int .u64 5762183848404362945, .int .u64 11243336393847676563, .int .u64 1693288]), (7, .agg #[.int .u64 0, .int .u64 0, .int .u64 0, .int .u64 4294901760])], by kernel_rfl, ?_⟩
  refine GP.call 3 (Lit6_calls w16) (by kernel_rfl) (by kernel_rfl) (fun e_ w20 hR => ?_)
  obtain ⟨rfl, H22⟩ := hR
  have H21 : Hp w [] [.blk p3 [.int .u8 111, .int .u8 226, .int .u8 140, .int .u8 10, .int .u8 182, .int .u8 241, .int .u8 179, .int .u8 114, .int .u8 193, .int .u8 166, .int .u8 162, .int .u8 70, .int .u8 174, .int .u8 99, .int .u8 247, .int .u8 79, .int .u8 147, .int .u8 30, .int .u8 131, .int .u8 101, .int .u8 225, .int .u8 90, .int .u8 8, .int .u8 156, .int .u8 104, .int .u8 214, .int .u8 25, .int .u8 0, .int .u8 0, .int .u8 0, .int .u8 0, .int .u8 0] 24, .blk p7 [.int .u64 0, .int .u64 0, .int .u64 0, .int .u64 4294901760] 33] w20 := H17.callNil H22
  have hS23 : Hp w [] [.blk p3 [.int .u8 111, .int .u8 226, .int .u8 140, .int .u8 10, .int .u8 182, .int .u8 241, .int .u8 179, .int .u8 114, .int .u8 193, .int .u8 166, .int .u8 162, .int .u8 70, .int .u8 174, .int .u8 99, .int .u8 247, .int .u8 79, .int .u8 147, .int .u8 30, .int .u8 131, .int .u8 101, .int .u8 225, .int .u8 90, .int .u8 8, .int .u8 156, .int .u8 104, .int .u8 214, .int .u8 25, .int .u8 0, .int .u8 0, .int .u8 0, .int .u8 0, .int .u8 0] 24, .blk p7 [.int .u64 0, .int .u64 0, .int .u64 0, .int .u64 4294901760] 33] w20 := H21.sub (List.Sublist.cons_cons _ (List.Sublist.cons_cons _ (List.Sublist.slnil)))
  refine ⟨_, rfl, hS23, [8], [(8, .int .i64 (-1))], by kernel_rfl, ?_⟩
  refine GP.run [4, 5] [4] [(4, .bool true)] [0, 2, 1, 3, 4, 5] (by kernel_rfl) rfl hS23 ?_
  refine GP.k (by kernel_rfl) hK12 (fun _ _ h => h) ?_
  refine G.ret ?_
  intro F_ hF_ hM_
  refine hRet _ _ (bodyPost_1 rfl (RV.tmp rfl) ?_ F_ hF_ hM_)
  exact ⟨rfl, H21.sub (List.nil_sublist _)⟩
theorem Lit8_calls (w : World) : Calls Try.prog 16 #[.agg #[.int .u64 0, .int .u64 0, .int .u64 0, .int .u64 0]] w fun e w' => e = .returned (.agg #[.int .u64 18446744073709551615, .int .u64 18446744073709551615, .int .u64 18446744073709551615, .int .u64 18446744073709551615]) ∧ Hp w [] [] w' := by
  refine calls_G (args := [.agg #[.int .u64 0, .int .u64 0, .int .u64 0, .int .u64 0]]) Try.func16 rfl Try.ntmps16 rfl ?_
  intro Q0 hRet hNor hPan
  have H := Hp.start w
  have H : Hp w [] [] w := H
  refine G.seqK fun K1 hK2 => ?_
  refine G.region ?_
  obtain ⟨p3, w4, r5, H6⟩ := H.box (P := Try.prog) 33 [.int .u64 0, .int .u64 0, .int .u64 0, .int .u64 0] (.agg #[.int .u64 0, .int .u64 0, .int .u64 0, .int .u64 0]) rfl
  have H6 : Hp w [] [.blk p3 [.int .u64 0, .int .u64 0, .int .u64 0, .int .u64 0] 33] w4 := H6
  refine GL.sem (j := 1) (r5) [1] [(1, pt p3 0)] (by kernel_rfl) (by kernel_rfl) rfl ?_
  obtain ⟨p7, w8, r9, H10⟩ := H6.alloc (P := Try.prog) 33 [.int .u64 0, .int .u64 0, .int .u64 0, .int .u64 0] (by kernel_rfl)
  have H10 : Hp w [] [.blk p3 [.int .u64 0, .int .u64 0, .int .u64 0, .int .u64 0] 33, .blk p7 [.int .u64 0, .int .u64 0, .int .u64 0, .int .u64 0] 33] w8 := H10
  refine GL.sem (j := 2) (r9) [1, 2] [(1, pt p3 0), (2, pt p7 0)] (by kernel_rfl) (by kernel_rfl) rfl ?_
  refine GL.k rfl hK2 (fun _ _ h => h) ?_
  refine G.seqK fun K11 hK12 => ?_
  refine G.seqK fun K13 hK14 => ?_
  refine G.region ?_
  refine GL.run (j := 1) 1 [1, 2, 4] [(1, pt p3 0), (2, pt p7 0), (4, .int .i64 0)] (by kernel_rfl) rfl ?_
  refine GL.k rfl hK14 (fun _ _ h => h) ?_
  refine G.block ?_
  refine G.unroll 70 ?_
  refine G.seqK fun K15 hK16 => ?_
  refine G.region ?_
  refine GL.run (j := 1) 1 [1, 2, 4, 5] [(1, pt p3 0), (2, pt p7 0), (4, .int .i64 0), (5, .bool true)] (by kernel_rfl) rfl ?_
  refine GL.k rfl hK16 (fun _ _ h => h) ?_
  refine G.seqK fun K17 hK18 => ?_
  refine G.yes rfl ?_
  refine G.skipK hK18 (fun _ _ h => h) ?_
  refine G.seqK fun K19 hK20 => ?_
  refine G.block ?_
  refine G.seqK fun K21 hK22 => ?_
  refine G.region ?_
  refine GL.run (j := 2) 2 [1, 2, 3, 4] [(1, pt p3 0), (2, pt p7 0), (3, .int .i64 0), (4, .int .i64 0)] (by kernel_rfl) rfl ?_
  refine GL.k rfl hK22 (fun _ _ h => h) ?_
  refine G.region ?_
  refine GL.run (j := 3) 3 [1, 2, 4, 7, 9] [(1, pt p3 0), (2, pt p7 0), (4, .int .i64 0), (7, .int .i64 0), (9, pt p3 0)] (by kernel_rfl) rfl ?_
  refine GL.sem (j := 4) (H10.ld (o := 0) (ty := 31) (v := .int .u64 0) 0 rfl (by kernel_rfl) rfl) [1, 2, 4, 7, 10] [(1, pt p3 0), (2, pt p7 0), (4, .int .i64 0), (7, .int .i64 0), (10, .int .u64 0)] (by kernel_rfl) (by kernel_rfl) rfl ?_
  refine GL.run (j := 6) 2 [1, 2, 4, 11, 12] [(1, pt p3 0), (2, pt p7 0), (4, .int .i64 0), (11, .int .u64 18446744073709551615), (12, pt p3 0)] (by kernel_rfl) rfl ?_
  obtain ⟨w23, r24, H25⟩ := H10.st (P := Try.prog) (o := 0) (ty := 31) (v := .int .u64 18446744073709551615) 0 rfl (by kernel_rfl) (by simp) rfl
  have H25 : Hp w [] [.blk p3 [.int .u64 18446744073709551615, .int .u64 0, .int .u64 0, .int .u64 0] 33, .blk p7 [.int .u64 0, .int .u64 0, .int .u64 0, .int .u64 0] 33] w23 := H25
  refine GL.semU (j := 7) r24 [1, 2, 4] [(1, pt p3 0), (2, pt p7 0), (4, .int .i64 0)] (by kernel_rfl) rfl rfl rfl ?_
  refine GL.k rfl hK20 (fun _ _ h => h) ?_
  refine G.region ?_
  refine GL.run (j := 2) 2 [1, 2, 4] [(1, pt p3 0), (2, pt p7 0), (4, .int .i64 1)] (by kernel_rfl) rfl ?_
  refine GL.round rfl ?_
  refine G.seqK fun K26 hK27 => ?_
  refine G.region ?_
  refine GL.run (j := 1) 1 [1, 2, 4, 5] [(1, pt p3 0), (2, pt p7 0), (4, .int .i64 1), (5, .bool true)] (by kernel_rfl) rfl ?_
  refine GL.k rfl hK27 (fun _ _ h => h) ?_
  refine G.seqK fun K28 hK29 => ?_
  refine G.yes rfl ?_
  refine G.skipK hK29 (fun _ _ h => h) ?_
  refine G.seqK fun K30 hK31 => ?_
  refine G.block ?_
  refine G.seqK fun K32 hK33 => ?_
  refine G.region ?_
  refine GL.run (j := 2) 2 [1, 2, 3, 4] [(1, pt p3 0), (2, pt p7 0), (3, .int .i64 1), (4, .int .i64 1)] (by kernel_rfl) rfl ?_
  refine GL.k rfl hK33 (fun _ _ h => h) ?_
  refine G.region ?_
  refine GL.run (j := 3) 3 [1, 2, 4, 7, 9] [(1, pt p3 0), (2, pt p7 0), (4, .int .i64 1), (7, .int .i64 1), (9, pt p3 1)] (by kernel_rfl) rfl ?_
  refine GL.sem (j := 4) (H25.ld (o := 1) (ty := 31) (v := .int .u64 0) 0 rfl (by kernel_rfl) rfl) [1, 2, 4, 7, 10] [(1, pt p3 0), (2, pt p7 0), (4, .int .i64 1), (7, .int .i64 1), (10, .int .u64 0)] (by kernel_rfl) (by kernel_rfl) rfl ?_
  refine GL.run (j := 6) 2 [1, 2, 4, 11, 12] [(1, pt p3 0), (2, pt p7 0), (4, .int .i64 1), (11, .int .u64 18446744073709551615), (12, pt p3 1)] (by kernel_rfl) rfl ?_
  obtain ⟨w34, r35, H36⟩ := H25.st (P := Try.prog) (o := 1) (ty := 31) (v := .int .u64 18446744073709551615) 0 rfl (by kernel_rfl) (by simp) rfl
  have H36 : Hp w [] [.blk p3 [.int .u64 18446744073709551615, .int .u64 18446744073709551615, .int .u64 0, .int .u64 0] 33, .blk p7 [.int .u64 0, .int .u64 0, .int .u64 0, .int .u64 0] 33] w34 := H36
  refine GL.semU (j := 7) r35 [1, 2, 4] [(1, pt p3 0), (2, pt p7 0), (4, .int .i64 1)] (by kernel_rfl) rfl rfl rfl ?_
  refine GL.k rfl hK31 (fun _ _ h => h) ?_
  refine G.region ?_
  refine GL.run (j := 2) 2 [1, 2, 4] [(1, pt p3 0), (2, pt p7 0), (4, .int .i64 2)] (by kernel_rfl) rfl ?_
  refine GL.round rfl ?_
  refine G.seqK fun K37 hK38 => ?_
  refine G.region ?_
  refine GL.run (j := 1) 1 [1, 2, 4, 5] [(1, pt p3 0), (2, pt p7 0), (4, .int .i64 2), (5, .bool true)] (by kernel_rfl) rfl ?_
  refine GL.k rfl hK38 (fun _ _ h => h) ?_
  refine G.seqK fun K39 hK40 => ?_
  refine G.yes rfl ?_
  refine G.skipK hK40 (fun _ _ h => h) ?_
  refine G.seqK fun K41 hK42 => ?_
  refine G.block ?_
  refine G.seqK fun K43 hK44 => ?_
  refine G.region ?_
  refine GL.run (j := 2) 2 [1, 2, 3, 4] [(1, pt p3 0), (2, pt p7 0), (3, .int .i64 2), (4, .int .i64 2)] (by kernel_rfl) rfl ?_
  refine GL.k rfl hK44 (fun _ _ h => h) ?_
  refine G.region ?_
  refine GL.run (j := 3) 3 [1, 2, 4, 7, 9] [(1, pt p3 0), (2, pt p7 0), (4, .int .i64 2), (7, .int .i64 2), (9, pt p3 2)] (by kernel_rfl) rfl ?_
  refine GL.sem (j := 4) (H36.ld (o := 2) (ty := 31) (v := .int .u64 0) 0 rfl (by kernel_rfl) rfl) [1, 2, 4, 7, 10] [(1, pt p3 0), (2, pt p7 0), (4, .int .i64 2), (7, .int .i64 2), (10, .int .u64 0)] (by kernel_rfl) (by kernel_rfl) rfl ?_
  refine GL.run (j := 6) 2 [1, 2, 4, 11, 12] [(1, pt p3 0), (2, pt p7 0), (4, .int .i64 2), (11, .int .u64 18446744073709551615), (12, pt p3 2)] (by kernel_rfl) rfl ?_
  obtain ⟨w45, r46, H47⟩ := H36.st (P := Try.prog) (o := 2) (ty := 31) (v := .int .u64 18446744073709551615) 0 rfl (by kernel_rfl) (by simp) rfl
  have H47 : Hp w [] [.blk p3 [.int .u64 18446744073709551615, .int .u64 18446744073709551615, .int .u64 18446744073709551615, .int .u64 0] 33, .blk p7 [.int .u64 0, .int .u64 0, .int .u64 0, .int .u64 0] 33] w45 := H47
  refine GL.semU (j := 7) r46 [1, 2, 4] [(1, pt p3 0), (2, pt p7 0), (4, .int .i64 2)] (by kernel_rfl) rfl rfl rfl ?_
  refine GL.k rfl hK42 (fun _ _ h => h) ?_
  refine G.region ?_
  refine GL.run (j := 2) 2 [1, 2, 4] [(1, pt p3 0), (2, pt p7 0), (4, .int .i64 3)] (by kernel_rfl) rfl ?_
  refine GL.round rfl ?_
  refine G.seqK fun K48 hK49 => ?_
  refine G.region ?_
  refine GL.run (j := 1) 1 [1, 2, 4, 5] [(1, pt p3 0), (2, pt p7 0), (4, .int .i64 3), (5, .bool true)] (by kernel_rfl) rfl ?_
  refine GL.k rfl hK49 (fun _ _ h => h) ?_
  refine G.seqK fun K50 hK51 => ?_
  refine G.yes rfl ?_
  refine G.skipK hK51 (fun _ _ h => h) ?_
  refine G.seqK fun K52 hK53 => ?_
  refine G.block ?_
  refine G.seqK fun K54 hK55 => ?_
  refine G.region ?_
  refine GL.run (j := 2) 2 [1, 2, 3, 4] [(1, pt p3 0), (2, pt p7 0), (3, .int .i64 3), (4, .int .i64 3)] (by kernel_rfl) rfl ?_
  refine GL.k rfl hK55 (fun _ _ h => h) ?_
  refine G.region ?_
  refine GL.run (j := 3) 3 [1, 2, 4, 7, 9] [(1, pt p3 0), (2, pt p7 0), (4, .int .i64 3), (7, .int .i64 3), (9, pt p3 3)] (by kernel_rfl) rfl ?_
  refine GL.sem (j := 4) (H47.ld (o := 3) (ty := 31) (v := .int .u64 0) 0 rfl (by kernel_rfl) rfl) [1, 2, 4, 7, 10] [(1, pt p3 0), (2, pt p7 0), (4, .int .i64 3), (7, .int .i64 3), (10, .int .u64 0)] (by kernel_rfl) (by kernel_rfl) rfl ?_
  refine GL.run (j := 6) 2 [1, 2, 4, 11, 12] [(1, pt p3 0), (2, pt p7 0), (4, .int .i64 3), (11, .int .u64 18446744073709551615), (12, pt p3 3)] (by kernel_rfl) rfl ?_
  obtain ⟨w56, r57, H58⟩ := H47.st (P := Try.prog) (o := 3) (ty := 31) (v := .int .u64 18446744073709551615) 0 rfl (by kernel_rfl) (by simp) rfl
  have H58 : Hp w [] [.blk p3 [.int .u64 18446744073709551615, .int .u64 18446744073709551615, .int .u64 18446744073709551615, .int .u64 18446744073709551615] 33, .blk p7 [.int .u64 0, .int .u64 0, .int .u64 0, .int .u64 0] 33] w56 := H58
  refine GL.semU (j := 7) r57 [1, 2, 4] [(1, pt p3 0), (2, pt p7 0), (4, .int .i64 3)] (by kernel_rfl) rfl rfl rfl ?_
  refine GL.k rfl hK53 (fun _ _ h => h) ?_
  refine G.region ?_
  refine GL.run (j := 2) 2 [1, 2, 4] [(1, pt p3 0), (2, pt p7 0), (4, .int .i64 4)] (by kernel_rfl) rfl ?_
  refine GL.round rfl ?_
  refine G.seqK fun K59 hK60 => ?_
  refine G.region ?_
  refine GL.run (j := 1) 1 [1, 2, 4, 5] [(1, pt p3 0), (2, pt p7 0), (4, .int .i64 4), (5, .bool false)] (by kernel_rfl) rfl ?_
  refine GL.k rfl hK60 (fun _ _ h => h) ?_
  refine G.seqK fun K61 hK62 => ?_
  refine G.no rfl ?_
  refine G.exitK hK12 (fun _ _ h => h) ?_
  refine G.seqK fun K63 hK64 => ?_
  refine G.region ?_
  refine GL.sem (j := 1) (H58.ldA (o := 0) (ty := 33) (m := 4) (sub := [.int .u64 18446744073709551615, .int .u64 18446744073709551615, .int .u64 18446744073709551615, .int .u64 18446744073709551615]) 0 rfl (by kernel_rfl) rfl rfl) [2, 14] [(2, pt p7 0), (14, .agg #[.int .u64 18446744073709551615, .int .u64 18446744073709551615, .int .u64 18446744073709551615, .int .u64 18446744073709551615])] (by kernel_rfl) (by kernel_rfl) rfl ?_
  obtain ⟨w65, r66, H67⟩ := H58.stA (P := Try.prog) (o := 0) (vs := [.int .u64 18446744073709551615, .int .u64 18446744073709551615, .int .u64 18446744073709551615, .int .u64 18446744073709551615]) (ty := 33) (m := 4) 1 rfl (by kernel_rfl) rfl (by simp) (by simp [Value.oneCell'])
  have H67 : Hp w [] [.blk p3 [.int .u64 18446744073709551615, .int .u64 18446744073709551615, .int .u64 18446744073709551615, .int .u64 18446744073709551615] 33, .blk p7 [.int .u64 18446744073709551615, .int .u64 18446744073709551615, .int .u64 18446744073709551615, .int .u64 18446744073709551615] 33] w65 := H67
  refine GL.semU (j := 2) r66 [2] [(2, pt p7 0)] (by kernel_rfl) rfl rfl rfl ?_
  refine GL.k rfl hK64 (fun _ _ h => h) ?_
  refine G.ret ?_
  intro F_ hF_ hM_
  refine hRet _ _ (bodyPost_1 rfl (RV.cell rfl (H67.ldA (o := 0) (ty := 33) (m := 4) (sub := [.int .u64 18446744073709551615, .int .u64 18446744073709551615, .int .u64 18446744073709551615, .int .u64 18446744073709551615]) 1 rfl (by kernel_rfl) rfl rfl)) ?_ F_ hF_ hM_)
  exact ⟨rfl, H67.sub (List.nil_sublist _)⟩
theorem Check0_calls (w : World) : Calls Try.prog 14 #[.agg (hdC 1 ([0, 0, 0, 0, 0, 0, 0, 0, 0, 0, 0, 0, 0, 0, 0, 0, 0, 0, 0, 0, 0, 0, 0, 0, 0, 0, 0, 0, 0, 0, 0, 0] : List UInt8) ([59, 163, 237, 253, 122, 123, 18, 178, 122, 199, 44, 62, 103, 118, 143, 97, 127, 200, 27, 195, 136, 138, 81, 50, 58, 159, 184, 170, 75, 30, 94, 74] : List UInt8) 1231006505 486604799 2083236893).toArray, .agg #[.int .u64 18446744073709551615, .int .u64 18446744073709551615, .int .u64 18446744073709551615, .int .u64 18446744073709551615]] w fun e w' => e = .returned (.int .i64 0) ∧ Hp w [] [] w' := by
  refine calls_G (args := [.agg (hdC 1 ([0, 0, 0, 0, 0, 0, 0, 0, 0, 0, 0, 0, 0, 0, 0, 0, 0, 0, 0, 0, 0, 0, 0, 0, 0, 0, 0, 0, 0, 0, 0, 0] : List UInt8) ([59, 163, 237, 253, 122, 123, 18, 178, 122, 199, 44, 62, 103, 118, 143, 97, 127, 200, 27, 195, 136, 138, 81, 50, 58, 159, 184, 170, 75, 30, 94, 74] : List UInt8) 1231006505 486604799 2083236893).toArray, .agg #[.int .u64 18446744073709551615, .int .u64 18446744073709551615, .int .u64 18446744073709551615, .int .u64 18446744073709551615]]) Try.func14 rfl Try.ntmps14 rfl ?_
  intro Q0 hRet hNor hPan
  have H := Hp.start w
  have H : Hp w [] [] w := H
  refine G.seqK fun K1 hK2 => ?_
  refine G.region ?_
  obtain ⟨p3, w4, r5, H6⟩ := H.box (P := Try.prog) 26 (hdC 1 ([0, 0, 0, 0, 0, 0, 0, 0, 0, 0, 0, 0, 0, 0, 0, 0, 0, 0, 0, 0, 0, 0, 0, 0, 0, 0, 0, 0, 0, 0, 0, 0] : List UInt8) ([59, 163, 237, 253, 122, 123, 18, 178, 122, 199, 44, 62, 103, 118, 143, 97, 127, 200, 27, 195, 136, 138, 81, 50, 58, 159, 184, 170, 75, 30, 94, 74] : List UInt8) 1231006505 486604799 2083236893) (.agg (hdC 1 ([0, 0, 0, 0, 0, 0, 0, 0, 0, 0, 0, 0, 0, 0, 0, 0, 0, 0, 0, 0, 0, 0, 0, 0, 0, 0, 0, 0, 0, 0, 0, 0] : List UInt8) ([59, 163, 237, 253, 122, 123, 18, 178, 122, 199, 44, 62, 103, 118, 143, 97, 127, 200, 27, 195, 136, 138, 81, 50, 58, 159, 184, 170, 75, 30, 94, 74] : List UInt8) 1231006505 486604799 2083236893).toArray) rfl
  have H6 : Hp w [] [.blk p3 (hdC 1 ([0, 0, 0, 0, 0, 0, 0, 0, 0, 0, 0, 0, 0, 0, 0, 0, 0, 0, 0, 0, 0, 0, 0, 0, 0, 0, 0, 0, 0, 0, 0, 0] : List UInt8) ([59, 163, 237, 253, 122, 123, 18, 178, 122, 199, 44, 62, 103, 118, 143, 97, 127, 200, 27, 195, 136, 138, 81, 50, 58, 159, 184, 170, 75, 30, 94, 74] : List UInt8) 1231006505 486604799 2083236893) 26] w4 := H6
  refine GL.sem (j := 1) (r5) [1, 2] [(1, .agg #[.int .u64 18446744073709551615, .int .u64 18446744073709551615, .int .u64 18446744073709551615, .int .u64 18446744073709551615]), (2, pt p3 0)] (by kernel_rfl) (by kernel_rfl) rfl ?_
  obtain ⟨p7, w8, r9, H10⟩ := H6.box (P := Try.prog) 33 [.int .u64 18446744073709551615, .int .u64 18446744073709551615, .int .u64 18446744073709551615, .int .u64 18446744073709551615] (.agg #[.int .u64 18446744073709551615, .int .u64 18446744073709551615, .int .u64 18446744073709551615, .int .u64 18446744073709551615]) rfl
  have H10 : Hp w [] [.blk p3 (hdC 1 ([0, 0, 0, 0, 0, 0, 0, 0, 0, 0, 0, 0, 0, 0, 0, 0, 0, 0, 0, 0, 0, 0, 0, 0, 0, 0, 0, 0, 0, 0, 0, 0] : List UInt8) ([59, 163, 237, 253, 122, 123, 18, 178, 122, 199, 44, 62, 103, 118, 143, 97, 127, 200, 27, 195, 136, 138, 81, 50, 58, 159, 184, 170, 75, 30, 94, 74] : List UInt8) 1231006505 486604799 2083236893) 26, .blk p7 [.int .u64 18446744073709551615, .int .u64 18446744073709551615, .int .u64 18446744073709551615, .int .u64 18446744073709551615] 33] w8 := H10
  refine GL.sem (j := 2) (r9) [2, 3] [(2, pt p3 0), (3, pt p7 0)] (by kernel_rfl) (by kernel_rfl) rfl ?_
  refine GL.run (j := 3) 1 [2, 3] [(2, pt p3 0), (3, pt p7 0)] (by kernel_rfl) rfl ?_
  refine GL.k rfl hK2 (fun _ _ h => h) ?_
  refine G.seqK fun K11 hK12 => ?_
  refine G.region ?_
  refine GL.run (j := 1) 1 [2, 3, 8] [(2, pt p3 0), (3, pt p7 0), (8, pt p3 66)] (by kernel_rfl) rfl ?_
  refine GL.sem (j := 2) (H10.ld (o := 66) (ty := 22) (v := .int .u32 486604799) 0 rfl (by kernel_rfl) (hdC_b rfl rfl)) [2, 3, 9] [(2, pt p3 0), (3, pt p7 0), (9, .int .u32 486604799)] (by kernel_rfl) (by kernel_rfl) rfl ?_
  refine GL.call (j := 3) (Lit4_calls w8) (by kernel_rfl) rfl (fun e_ w13 hR => ?_)
  obtain ⟨rfl, H15⟩ := hR
  have H14 : Hp w [] [.blk p3 (hdC 1 ([0, 0, 0, 0, 0, 0, 0, 0, 0, 0, 0, 0, 0, 0, 0, 0, 0, 0, 0, 0, 0, 0, 0, 0, 0, 0, 0, 0, 0, 0, 0, 0] : List UInt8) ([59, 163, 237, 253, 122, 123, 18, 178, 122, 199, 44, 62, 103, 118, 143, 97, 127, 200, 27, 195, 136, 138, 81, 50, 58, 159, 184, 170, 75, 30, 94, 74] : List UInt8) 1231006505 486604799 2083236893) 26, .blk p7 [.int .u64 18446744073709551615, .int .u64 18446744073709551615, .int .u64 18446744073709551615, .int .u64 18446744073709551615] 33] w13 := H10.callNil H15
  refine ⟨_, rfl, [2, 3, 10], [(2, pt p3 0), (3, pt p7 0), (10, .tuple #[.agg #[.int .u64 0, .int .u64 0, .int .u64 0, .int .u64 4294901760], .int .i64 0])], by kernel_rfl, ?_⟩
  refine GL.run (j := 6) 3 [2, 3, 11, 12] [(2, pt p3 0), (3, pt p7 0), (11, .agg #[.int .u64 0, .int .u64 0, .int .u64 0, .int .u64 4294901760]), (12, .int .i64 0)] (by kernel_rfl) rfl ?_
  obtain ⟨p16, w17, r18, H19⟩ := H14.alloc (P := Try.prog) 33 [.int .u64 0, .int .u64 0, .int .u64 0, .int .u64 0] (by kernel_rfl)
  have H19 : Hp w [] [.blk p3 (hdC 1 ([0, 0, 0, 0, 0, 0, 0, 0, 0, 0, 0, 0, 0, 0, 0, 0, 0, 0, 0, 0, 0, 0, 0, 0, 0, 0, 0, 0, 0, 0, 0, 0] : List UInt8) ([59, 163, 237, 253, 122, 123, 18, 178, 122, 199, 44, 62, 103, 118, 143, 97, 127, 200, 27, 195, 136, 138, 81, 50, 58, 159, 184, 170, 75, 30, 94, 74] : List UInt8) 1231006505 486604799 2083236893) 26, .blk p7 [.int .u64 18446744073709551615, .int .u64 18446744073709551615, .int .u64 18446744073709551615, .int .u64 18446744073709551615] 33, .blk p16 [.int .u64 0, .int .u64 0, .int .u64 0, .int .u64 0] 33] w17 := H19
  refine GL.sem (j := 7) (r18) [2, 3, 5, 11, 12] [(2, pt p3 0), (3, pt p7 0), (5, pt p16 0), (11, .agg #[.int .u64 0, .int .u64 0, .int .u64 0, .int .u64 4294901760]), (12, .int .i64 0)] (by kernel_rfl) (by kernel_rfl) rfl ?_
  obtain ⟨w20, r21, H22⟩ := H19.stA (P := Try.prog) (o := 0) (vs := [.int .u64 0, .int .u64 0, .int .u64 0, .int .u64 4294901760]) (ty := 33) (m := 4) 2 rfl (by kernel_rfl) rfl (by simp) (by simp [Value.oneCell'])
  have H22 : Hp w [] [.blk p3 (hdC 1 ([0, 0, 0, 0, 0, 0, 0, 0, 0, 0, 0, 0, 0, 0, 0, 0, 0, 0, 0, 0, 0, 0, 0, 0, 0, 0, 0, 0, 0, 0, 0, 0] : List UInt8) ([59, 163, 237, 253, 122, 123, 18, 178, 122, 199, 44, 62, 103, 118, 143, 97, 127, 200, 27, 195, 136, 138, 81, 50, 58, 159, 184, 170, 75, 30, 94, 74] : List UInt8) 1231006505 486604799 2083236893) 26, .blk p7 [.int .u64 18446744073709551615, .int .u64 18446744073709551615, .int .u64 18446744073709551615, .int .u64 18446744073709551615] 33, .blk p16 [.int .u64 0, .int .u64 0, .int .u64 0, .int .u64 4294901760] 33] w20 := H22
  refine GL.semU (j := 8) r21 [2, 3, 5, 12] [(2, pt p3 0), (3, pt p7 0), (5, pt p16 0), (12, .int .i64 0)] (by kernel_rfl) rfl rfl rfl ?_
  refine GL.run (j := 9) 1 [2, 3, 5, 6] [(2, pt p3 0), (3, pt p7 0), (5, pt p16 0), (6, .int .i64 0)] (by kernel_rfl) rfl ?_
  refine GL.k rfl hK12 (fun _ _ h => h) ?_
  refine G.seqK fun K23 hK24 => ?_
  refine G.block ?_
  refine G.seqK fun K25 hK26 => ?_
  refine G.region ?_
  refine GL.run (j := 3) 3 [2, 3, 5, 16] [(2, pt p3 0), (3, pt p7 0), (5, pt p16 0), (16, .bool false)] (by kernel_rfl) rfl ?_
  refine GL.sem (j := 4) (H22.ldA (o := 0) (ty := 33) (m := 4) (sub := [.int .u64 0, .int .u64 0, .int .u64 0, .int .u64 4294901760]) 2 rfl (by kernel_rfl) rfl rfl) [2, 3, 5, 16, 17] [(2, pt p3 0), (3, pt p7 0), (5, pt p16 0), (16, .bool false), (17, .agg #[.int .u64 0, .int .u64 0, .int .u64 0, .int .u64 4294901760])] (by kernel_rfl) (by kernel_rfl) rfl ?_
  refine GL.sem (j := 5) (H22.ldA (o := 0) (ty := 33) (m := 4) (sub := [.int .u64 18446744073709551615, .int .u64 18446744073709551615, .int .u64 18446744073709551615, .int .u64 18446744073709551615]) 1 rfl (by kernel_rfl) rfl rfl) [2, 5, 16, 17, 18] [(2, pt p3 0), (5, pt p16 0), (16, .bool false), (17, .agg #[.int .u64 0, .int .u64 0, .int .u64 0, .int .u64 4294901760]), (18, .agg #[.int .u64 18446744073709551615, .int .u64 18446744073709551615, .int .u64 18446744073709551615, .int .u64 18446744073709551615])] (by kernel_rfl) (by kernel_rfl) rfl ?_
  refine GL.call (j := 6) (Lit5_calls w20) (by kernel_rfl) rfl (fun e_ w27 hR => ?_)
  obtain ⟨rfl, H29⟩ := hR
  have H28 : Hp w [] [.blk p3 (hdC 1 ([0, 0, 0, 0, 0, 0, 0, 0, 0, 0, 0, 0, 0, 0, 0, 0, 0, 0, 0, 0, 0, 0, 0, 0, 0, 0, 0, 0, 0, 0, 0, 0] : List UInt8) ([59, 163, 237, 253, 122, 123, 18, 178, 122, 199, 44, 62, 103, 118, 143, 97, 127, 200, 27, 195, 136, 138, 81, 50, 58, 159, 184, 170, 75, 30, 94, 74] : List UInt8) 1231006505 486604799 2083236893) 26, .blk p7 [.int .u64 18446744073709551615, .int .u64 18446744073709551615, .int .u64 18446744073709551615, .int .u64 18446744073709551615] 33, .blk p16 [.int .u64 0, .int .u64 0, .int .u64 0, .int .u64 4294901760] 33] w27 := H22.callNil H29
  refine ⟨_, rfl, [2, 5, 16, 19], [(2, pt p3 0), (5, pt p16 0), (16, .bool false), (19, .int .i64 (-1))], by kernel_rfl, ?_⟩
  refine GL.run (j := 9) 3 [2, 5, 13] [(2, pt p3 0), (5, pt p16 0), (13, .bool false)] (by kernel_rfl) rfl ?_
  refine GL.k rfl hK26 (fun _ _ h => h) ?_
  refine G.no rfl ?_
  refine G.seqK fun K30 hK31 => ?_
  refine G.heldP (Hp w [] [.blk p3 (hdC 1 ([0, 0, 0, 0, 0, 0, 0, 0, 0, 0, 0, 0, 0, 0, 0, 0, 0, 0, 0, 0, 0, 0, 0, 0, 0, 0, 0, 0, 0, 0, 0, 0] : List UInt8) ([59, 163, 237, 253, 122, 123, 18, 178, 122, 199, 44, 62, 103, 118, 143, 97, 127, 200, 27, 195, 136, 138, 81, 50, 58, 159, 184, 170, 75, 30, 94, 74] : List UInt8) 1231006505 486604799 2083236893) 26, .blk p7 [.int .u64 18446744073709551615, .int .u64 18446744073709551615, .int .u64 18446744073709551615, .int .u64 18446744073709551615] 33, .blk p16 [.int .u64 0, .int .u64 0, .int .u64 0, .int .u64 4294901760] 33]) (by kernel_rfl) (by kernel_rfl) (fun c_ a_ d_ v_ w_ h_ => hPan c_ a_ d_ v_ w_ h_) ?_
  have H32 := H28.drew
  generalize ({ w27 with drawn := w27.drawn + 1 } : World) = w33 at H32 ⊢
  have hS34 : Hp w [] [.blk p3 (hdC 1 ([0, 0, 0, 0, 0, 0, 0, 0, 0, 0, 0, 0, 0, 0, 0, 0, 0, 0, 0, 0, 0, 0, 0, 0, 0, 0, 0, 0, 0, 0, 0, 0] : List UInt8) ([59, 163, 237, 253, 122, 123, 18, 178, 122, 199, 44, 62, 103, 118, 143, 97, 127, 200, 27, 195, 136, 138, 81, 50, 58, 159, 184, 170, 75, 30, 94, 74] : List UInt8) 1231006505 486604799 2083236893) 26, .blk p7 [.int .u64 18446744073709551615, .int .u64 18446744073709551615, .int .u64 18446744073709551615, .int .u64 18446744073709551615] 33, .blk p16 [.int .u64 0, .int .u64 0, .int .u64 0, .int .u64 4294901760] 33] w33 := H32.sub (List.Sublist.cons_cons _ (List.Sublist.cons_cons _ (List.Sublist.cons_cons _ (List.Sublist.slnil))))
  refine GP.sem 0 (fun w_ H_ => H_.ldA (o := 0) (ty := 26) (m := 68) (sub := hdC 1 ([0, 0, 0, 0, 0, 0, 0, 0, 0, 0, 0, 0, 0, 0, 0, 0, 0, 0, 0, 0, 0, 0, 0, 0, 0, 0, 0, 0, 0, 0, 0, 0] : List UInt8) ([59, 163, 237, 253, 122, 123, 18, 178, 122, 199, 44, 62, 103, 118, 143, 97, 127, 200, 27, 195, 136, 138, 81, 50, 58, 159, 184, 170, 75, 30, 94, 74] : List UInt8) 1231006505 486604799 2083236893) 0 rfl (by kernel_rfl) (sub_whole (hdC_length rfl rfl)) (hdC_length rfl rfl)) [5, 23] [(5, pt p16 0), (23, .agg (hdC 1 ([0, 0, 0, 0, 0, 0, 0, 0, 0, 0, 0, 0, 0, 0, 0, 0, 0, 0, 0, 0, 0, 0, 0, 0, 0, 0, 0, 0, 0, 0, 0, 0] : List UInt8) ([59, 163, 237, 253, 122, 123, 18, 178, 122, 199, 44, 62, 103, 118, 143, 97, 127, 200, 27, 195, 136, 138, 81, 50, 58, 159, 184, 170, 75, 30, 94, 74] : List UInt8) 1231006505 486604799 2083236893).toArray)] (by kernel_rfl) (by kernel_rfl) (by kernel_rfl) hS34 ?_
  refine GP.sem 2 (fun w_ H_ => H_.ldA (o := 0) (ty := 33) (m := 4) (sub := [.int .u64 0, .int .u64 0, .int .u64 0, .int .u64 4294901760]) 2 rfl (by kernel_rfl) rfl rfl) [23, 25] [(23, .agg (hdC 1 ([0, 0, 0, 0, 0, 0, 0, 0, 0, 0, 0, 0, 0, 0, 0, 0, 0, 0, 0, 0, 0, 0, 0, 0, 0, 0, 0, 0, 0, 0, 0, 0] : List UInt8) ([59, 163, 237, 253, 122, 123, 18, 178, 122, 199, 44, 62, 103, 118, 143, 97, 127, 200, 27, 195, 136, 138, 81, 50, 58, 159, 184, 170, 75, 30, 94, 74] : List UInt8) 1231006505 486604799 2083236893).toArray), (25, .agg #[.int .u64 0, .int .u64 0, .int .u64 0, .int .u64 4294901760])] (by kernel_rfl) (by kernel_rfl) (by kernel_rfl) hS34 ?_
  refine GP.call 1 ((by have h_ := HHash_calls 1 ([0, 0, 0, 0, 0, 0, 0, 0, 0, 0, 0, 0, 0, 0, 0, 0, 0, 0, 0, 0, 0, 0, 0, 0, 0, 0, 0, 0, 0, 0, 0, 0] : List UInt8) ([59, 163, 237, 253, 122, 123, 18, 178, 122, 199, 44, 62, 103, 118, 143, 97, 127, 200, 27, 195, 136, 138, 81, 50, 58, 159, 184, 170, 75, 30, 94, 74] : List UInt8) 1231006505 486604799 2083236893 w33 rfl rfl (by decide) (by decide) (by decide) (by decide); rw [first_hash] at h_; exact h_)) (by kernel_rfl) (by kernel_rfl) (fun e_ w35 hR => ?_)
  obtain ⟨rfl, H37⟩ := hR
  have H36 : Hp w [] [.blk p3 (hdC 1 ([0, 0, 0, 0, 0, 0, 0, 0, 0, 0, 0, 0, 0, 0, 0, 0, 0, 0, 0, 0, 0, 0, 0, 0, 0, 0, 0, 0, 0, 0, 0, 0] : List UInt8) ([59, 163, 237, 253, 122, 123, 18, 178, 122, 199, 44, 62, 103, 118, 143, 97, 127, 200, 27, 195, 136, 138, 81, 50, 58, 159, 184, 170, 75, 30, 94, 74] : List UInt8) 1231006505 486604799 2083236893) 26, .blk p7 [.int .u64 18446744073709551615, .int .u64 18446744073709551615, .int .u64 18446744073709551615, .int .u64 18446744073709551615] 33, .blk p16 [.int .u64 0, .int .u64 0, .int .u64 0, .int .u64 4294901760] 33] w35 := H32.callNil H37
  have hS38 : Hp w [] [.blk p3 (hdC 1 ([0, 0, 0, 0, 0, 0, 0, 0, 0, 0, 0, 0, 0, 0, 0, 0, 0, 0, 0, 0, 0, 0, 0, 0, 0, 0, 0, 0, 0, 0, 0, 0] : List UInt8) ([59, 163, 237, 253, 122, 123, 18, 178, 122, 199, 44, 62, 103, 118, 143, 97, 127, 200, 27, 195, 136, 138, 81, 50, 58, 159, 184, 170, 75, 30, 94, 74] : List UInt8) 1231006505 486604799 2083236893) 26, .blk p7 [.int .u64 18446744073709551615, .int .u64 18446744073709551615, .int .u64 18446744073709551615, .int .u64 18446744073709551615] 33, .blk p16 [.int .u64 0, .int .u64 0, .int .u64 0, .int .u64 4294901760] 33] w35 := H36.sub (List.Sublist.cons_cons _ (List.Sublist.cons_cons _ (List.Sublist.cons_cons _ (List.Sublist.slnil))))
  refine ⟨_, rfl, hS38, [24, 25], [(24, .agg #[.int .u8 111, .int .u8 226, .int .u8 140, .int .u8 10, .int .u8 182, .int .u8 241, .int .u8 179, .int .u8 114, .int .u8 193, .int .u8 166, .int .u8 162, .int .u8 70, .int .u8 174, .int .u8 99, .int .u8 247, .int .u8 79, .int .u8 147, .int .u8 30, .int .u8 131, .int .u8 101, .int .u8 225, .int .u8 90, .int .u8 8, .int .u8 156, .int .u8 104, .int .u8 214, .int .u8 25, .int .u8 0, .int .u8 0, .int .u8 0, .int .u8 0, .int .u8 0]), (25, .agg #[.int .u64 0, .int .u64 0, .int .u64 0, .int .u64 4294901760])], by kernel_rfl, ?_⟩
  refine GP.call 3 (Lit7_calls w35) (by kernel_rfl) (by kernel_rfl) (fun e_ w39 hR => ?_)
  obtain ⟨rfl, H41⟩ := hR
  have H40 : Hp w [] [.blk p3 (hdC 1 ([0, 0, 0, 0, 0, 0, 0, 0, 0, 0, 0, 0, 0, 0, 0, 0, 0, 0, 0, 0, 0, 0, 0, 0, 0, 0, 0, 0, 0, 0, 0, 0] : List UInt8) ([59, 163, 237, 253, 122, 123, 18, 178, 122, 199, 44, 62, 103, 118, 143, 97, 127, 200, 27, 195, 136, 138, 81, 50, 58, 159, 184, 170, 75, 30, 94, 74] : List UInt8) 1231006505 486604799 2083236893) 26, .blk p7 [.int .u64 18446744073709551615, .int .u64 18446744073709551615, .int .u64 18446744073709551615, .int .u64 18446744073709551615] 33, .blk p16 [.int .u64 0, .int .u64 0, .int .u64 0, .int .u64 4294901760] 33] w39 := H36.callNil H41
  have hS42 : Hp w [] [.blk p3 (hdC 1 ([0, 0, 0, 0, 0, 0, 0, 0, 0, 0, 0, 0, 0, 0, 0, 0, 0, 0, 0, 0, 0, 0, 0, 0, 0, 0, 0, 0, 0, 0, 0, 0] : List UInt8) ([59, 163, 237, 253, 122, 123, 18, 178, 122, 199, 44, 62, 103, 118, 143, 97, 127, 200, 27, 195, 136, 138, 81, 50, 58, 159, 184, 170, 75, 30, 94, 74] : List UInt8) 1231006505 486604799 2083236893) 26, .blk p7 [.int .u64 18446744073709551615, .int .u64 18446744073709551615, .int .u64 18446744073709551615, .int .u64 18446744073709551615] 33, .blk p16 [.int .u64 0, .int .u64 0, .int .u64 0, .int .u64 4294901760] 33] w39 := H40.sub (List.Sublist.cons_cons _ (List.Sublist.cons_cons _ (List.Sublist.cons_cons _ (List.Sublist.slnil))))
  refine ⟨_, rfl, hS42, [26], [(26, .bool true)], by kernel_rfl, ?_⟩
  refine GP.run [4, 5] [22] [(22, .bool false)] [0, 2, 1, 3, 4, 5] (by kernel_rfl) rfl hS42 ?_
  refine GP.k (by kernel_rfl) hK31 (fun _ _ h => h) ?_
  refine G.no rfl ?_
  refine G.skipK hK24 (fun _ _ h => h) ?_
  refine G.seqK fun K43 hK44 => ?_
  refine G.region ?_
  refine GL.run (j := 1) 1 [4] [(4, .int .i64 0)] (by kernel_rfl) rfl ?_
  refine GL.k rfl hK44 (fun _ _ h => h) ?_
  refine G.ret ?_
  intro F_ hF_ hM_
  refine hRet _ _ (bodyPost_1 rfl (RV.tmp rfl) ?_ F_ hF_ hM_)
  exact ⟨rfl, H40.sub (List.nil_sublist _)⟩
theorem lives_calls (w : World) : Calls Try.prog 7 #[] w fun e w' => e = .returned (.bool true) ∧ Hp w [] [] w' := by
  refine calls_G (args := []) Try.func7 rfl Try.ntmps7 rfl ?_
  intro Q0 hRet hNor hPan
  have H := Hp.start w
  have H : Hp w [] [] w := H
  refine G.seqK fun K1 hK2 => ?_
  refine G.region ?_
  refine GL.run (j := 1) 1 [] [] (by kernel_rfl) rfl ?_
  refine GL.k rfl hK2 (fun _ _ h => h) ?_
  refine G.seqK fun K3 hK4 => ?_
  refine G.region ?_
  refine GL.call (j := 1) (first_calls w) (by kernel_rfl) rfl (fun e_ w5 hR => ?_)
  obtain ⟨rfl, H7⟩ := hR
  have H6 : Hp w [] [] w5 := H.callNil H7
  refine ⟨_, rfl, [2], [(2, .agg (hdC 1 ([0, 0, 0, 0, 0, 0, 0, 0, 0, 0, 0, 0, 0, 0, 0, 0, 0, 0, 0, 0, 0, 0, 0, 0, 0, 0, 0, 0, 0, 0, 0, 0] : List UInt8) ([59, 163, 237, 253, 122, 123, 18, 178, 122, 199, 44, 62, 103, 118, 143, 97, 127, 200, 27, 195, 136, 138, 81, 50, 58, 159, 184, 170, 75, 30, 94, 74] : List UInt8) 1231006505 486604799 2083236893).toArray)], by kernel_rfl, ?_⟩
  refine GL.call (j := 2) ((by have h_ := HHash_calls 1 ([0, 0, 0, 0, 0, 0, 0, 0, 0, 0, 0, 0, 0, 0, 0, 0, 0, 0, 0, 0, 0, 0, 0, 0, 0, 0, 0, 0, 0, 0, 0, 0] : List UInt8) ([59, 163, 237, 253, 122, 123, 18, 178, 122, 199, 44, 62, 103, 118, 143, 97, 127, 200, 27, 195, 136, 138, 81, 50, 58, 159, 184, 170, 75, 30, 94, 74] : List UInt8) 1231006505 486604799 2083236893 w5 rfl rfl (by decide) (by decide) (by decide) (by decide); rw [first_hash] at h_; exact h_)) (by kernel_rfl) rfl (fun e_ w8 hR => ?_)
  obtain ⟨rfl, H10⟩ := hR
  have H9 : Hp w [] [] w8 := H6.callNil H10
  refine ⟨_, rfl, [3], [(3, .agg #[.int .u8 111, .int .u8 226, .int .u8 140, .int .u8 10, .int .u8 182, .int .u8 241, .int .u8 179, .int .u8 114, .int .u8 193, .int .u8 166, .int .u8 162, .int .u8 70, .int .u8 174, .int .u8 99, .int .u8 247, .int .u8 79, .int .u8 147, .int .u8 30, .int .u8 131, .int .u8 101, .int .u8 225, .int .u8 90, .int .u8 8, .int .u8 156, .int .u8 104, .int .u8 214, .int .u8 25, .int .u8 0, .int .u8 0, .int .u8 0, .int .u8 0, .int .u8 0])], by kernel_rfl, ?_⟩
  refine GL.call (j := 3) ((by have h_ := Text_calls ([111, 226, 140, 10, 182, 241, 179, 114, 193, 166, 162, 70, 174, 99, 247, 79, 147, 30, 131, 101, 225, 90, 8, 156, 104, 214, 25, 0, 0, 0, 0, 0] : List UInt8) rfl w8; rw [first_text] at h_; exact h_)) (by kernel_rfl) rfl (fun e_ w11 hR => ?_)
  obtain ⟨rfl, H13⟩ := hR
  have H12 : Hp w [] [] w11 := H9.callNil H13
  refine ⟨_, rfl, [4], [(4, .string (strOf ([48, 48, 48, 48, 48, 48, 48, 48, 48, 48, 49, 57, 100, 54, 54, 56, 57, 99, 48, 56, 53, 97, 101, 49, 54, 53, 56, 51, 49, 101, 57, 51, 52, 102, 102, 55, 54, 51, 97, 101, 52, 54, 97, 50, 97, 54, 99, 49, 55, 50, 98, 51, 102, 49, 98, 54, 48, 97, 56, 99, 101, 50, 54, 102] : List UInt8)))], by kernel_rfl, ?_⟩
  refine GL.run (j := 4) 1 [1] [(1, .string (strOf ([48, 48, 48, 48, 48, 48, 48, 48, 48, 48, 49, 57, 100, 54, 54, 56, 57, 99, 48, 56, 53, 97, 101, 49, 54, 53, 56, 51, 49, 101, 57, 51, 52, 102, 102, 55, 54, 51, 97, 101, 52, 54, 97, 50, 97, 54, 99, 49, 55, 50, 98, 51, 102, 49, 98, 54, 48, 97, 56, 99, 101, 50, 54, 102] : List UInt8)))] (by kernel_rfl) rfl ?_
  refine GL.k rfl hK4 (fun _ _ h => h) ?_
  refine G.seqK fun K14 hK15 => ?_
  refine G.region ?_
  refine GL.run (j := 5) 5 [8, 9] [(8, .bool true), (9, .string (strOf ([48, 48, 48, 48, 48, 48, 48, 48, 48, 48, 49, 57, 100, 54, 54, 56, 57, 99, 48, 56, 53, 97, 101, 49, 54, 53, 56, 51, 49, 101, 57, 51, 52, 102, 102, 55, 54, 51, 97, 101, 52, 54, 97, 50, 97, 54, 99, 49, 55, 50, 98, 51, 102, 49, 98, 54, 48, 97, 56, 99, 101, 50, 54, 102] : List UInt8)))] (by kernel_rfl) rfl ?_
  refine GL.sem (j := 6) (run_strHead (P := Try.prog) (t := 9) (k := .i64) (s := ([48, 48, 48, 48, 48, 48, 48, 48, 48, 48, 49, 57, 100, 54, 54, 56, 57, 99, 48, 56, 53, 97, 101, 49, 54, 53, 56, 51, 49, 101, 57, 51, 52, 102, 102, 55, 54, 51, 97, 101, 52, 54, 97, 50, 97, 54, 99, 49, 55, 50, 98, 51, 102, 49, 98, 54, 48, 97, 56, 99, 101, 50, 54, 102] : List UInt8)) (h := 16) (r := ([48, 48, 48, 48, 48, 48, 48, 48, 48, 48, 49, 57, 100, 54, 54, 56] : List UInt8)) (by kernel_rfl) (by decide) rfl _) [8, 10] [(8, .bool true), (10, .string (strOf ([48, 48, 48, 48, 48, 48, 48, 48, 48, 48, 49, 57, 100, 54, 54, 56] : List UInt8)))] (by kernel_rfl) (by kernel_rfl) rfl ?_
  refine GL.sem (j := 7) (run_str_eql (P := Try.prog) (t := 9) ([48, 48, 48, 48, 48, 48, 48, 48, 48, 48, 49, 57, 100, 54, 54, 56] : List UInt8) ([48, 48, 48, 48, 48, 48, 48, 48, 48, 48, 49, 57, 100, 54, 54, 56] : List UInt8) _) [8, 11] [(8, .bool true), (11, .bool true)] (by kernel_rfl) (by kernel_rfl) rfl ?_
  refine GL.run (j := 9) 2 [13] [(13, .bool true)] (by kernel_rfl) rfl ?_
  refine GL.call (j := 10) (first_calls w11) (by kernel_rfl) rfl (fun e_ w16 hR => ?_)
  obtain ⟨rfl, H18⟩ := hR
  have H17 : Hp w [] [] w16 := H12.callNil H18
  refine ⟨_, rfl, [13, 14], [(13, .bool true), (14, .agg (hdC 1 ([0, 0, 0, 0, 0, 0, 0, 0, 0, 0, 0, 0, 0, 0, 0, 0, 0, 0, 0, 0, 0, 0, 0, 0, 0, 0, 0, 0, 0, 0, 0, 0] : List UInt8) ([59, 163, 237, 253, 122, 123, 18, 178, 122, 199, 44, 62, 103, 118, 143, 97, 127, 200, 27, 195, 136, 138, 81, 50, 58, 159, 184, 170, 75, 30, 94, 74] : List UInt8) 1231006505 486604799 2083236893).toArray)], by kernel_rfl, ?_⟩
  refine GL.run (j := 11) 1 [13, 14, 15] [(13, .bool true), (14, .agg (hdC 1 ([0, 0, 0, 0, 0, 0, 0, 0, 0, 0, 0, 0, 0, 0, 0, 0, 0, 0, 0, 0, 0, 0, 0, 0, 0, 0, 0, 0, 0, 0, 0, 0] : List UInt8) ([59, 163, 237, 253, 122, 123, 18, 178, 122, 199, 44, 62, 103, 118, 143, 97, 127, 200, 27, 195, 136, 138, 81, 50, 58, 159, 184, 170, 75, 30, 94, 74] : List UInt8) 1231006505 486604799 2083236893).toArray), (15, .agg #[.int .u64 0, .int .u64 0, .int .u64 0, .int .u64 0])] (by kernel_rfl) rfl ?_
  refine GL.call (j := 12) (Lit8_calls w16) (by kernel_rfl) rfl (fun e_ w19 hR => ?_)
  obtain ⟨rfl, H21⟩ := hR
  have H20 : Hp w [] [] w19 := H17.callNil H21
  refine ⟨_, rfl, [13, 14, 16], [(13, .bool true), (14, .agg (hdC 1 ([0, 0, 0, 0, 0, 0, 0, 0, 0, 0, 0, 0, 0, 0, 0, 0, 0, 0, 0, 0, 0, 0, 0, 0, 0, 0, 0, 0, 0, 0, 0, 0] : List UInt8) ([59, 163, 237, 253, 122, 123, 18, 178, 122, 199, 44, 62, 103, 118, 143, 97, 127, 200, 27, 195, 136, 138, 81, 50, 58, 159, 184, 170, 75, 30, 94, 74] : List UInt8) 1231006505 486604799 2083236893).toArray), (16, .agg #[.int .u64 18446744073709551615, .int .u64 18446744073709551615, .int .u64 18446744073709551615, .int .u64 18446744073709551615])], by kernel_rfl, ?_⟩
  refine GL.call (j := 13) (Check0_calls w19) (by kernel_rfl) rfl (fun e_ w22 hR => ?_)
  obtain ⟨rfl, H24⟩ := hR
  have H23 : Hp w [] [] w22 := H20.callNil H24
  refine ⟨_, rfl, [13, 17], [(13, .bool true), (17, .int .i64 0)], by kernel_rfl, ?_⟩
  refine GL.run (j := 16) 3 [0] [(0, .bool true)] (by kernel_rfl) rfl ?_
  refine GL.k rfl hK15 (fun _ _ h => h) ?_
  refine G.ret ?_
  intro F_ hF_ hM_
  refine hRet _ _ (bodyPost_1 rfl (RV.tmp rfl) ?_ F_ hF_ hM_)
  exact ⟨rfl, H23.sub (List.nil_sublist _)⟩
end Go.Proofs.Ytdepaaphgfapjaa
