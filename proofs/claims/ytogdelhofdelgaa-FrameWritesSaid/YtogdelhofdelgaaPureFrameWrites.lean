/- Any frame written, and any bytes read, also with their sum behind, are as the document says, or why not. Conditions: none but the kinds of the values. -/
import Derived.Test.YtogdelhofdelgaaRead08c
import Derived.Test.YtogdelhofdelgaaPrint0
import Derived.Test.YtogdelhofdelgaaPrint2
import Derived.Test.YtogdelhofdelgaaPrint8
import Derived.Test.YtogdelhofdelgaaPrint19
import Derived.Test.YtogdelhofdelgaaPrint21
import Derived.Test.YtogdelhofdelgaaPrint22
set_option linter.unusedVariables false
set_option linter.unusedSimpArgs false
namespace Go.Proofs.Ytogdelhofdelgaa.Pure
open Go Go.RowKit Go.Proofs.Ytogdelhofdelgaa.Print Go.Proofs.YtogdelhofdelgaaW.PrintWords Go.Proofs.YtogdelhofdelgaaW.PrintLast Go.Proofs.YtogdelhofdelgaaW.PrintMore Go.Proofs.Ytogdelhofdelgaa.Wire Go.Proofs.Ytogdelhofdelgaa.WireSpec Go.Proofs.Ytogdelhofdelgaa.Wire2 Go.Proofs.Ytogdelhofdelgaa.Wire3 Go.Proofs.Ytogdelhofdelgaa.Wire4 Go.Proofs.Ytogdelhofdelgaa.Set08 Go.Proofs.Ytogdelhofdelgaa.Frame08
theorem live8' : palletlaw08_live.f 20000001 = some true := by decide +kernel
theorem self4 (a b c d : Int) : (a == a && (b == b && (c == c && (d == d)))) = true := by simp
theorem FrameWrites : ∀ (a0_0 : Int) (a0_1 : Int) (a0_2 : Int) (a0_3 : Int) (l1 : List Int), (Lit.int .i64 a0_0).wf = true → (Lit.int .i64 a0_1).wf = true → (Lit.int .u64 a0_2).wf = true → (Lit.int .u16 a0_3).wf = true → l1.length ≤ maxLen → l1.length * 1 ≤ 140737488351232 → (∀ y ∈ l1, (Lit.int .u8 y).wf = true) → ∃ k, palletlaw08_FrameWrites.f k a0_0 a0_1 a0_2 a0_3 l1 = some true := by
  intro a0 a1 a2 a3 l1 h0 h1 h2 h3 hm hb hy
  obtain ⟨n, rfl, hn⟩ := u64_of h2
  obtain ⟨g, rfl, hg⟩ := u16_of h3
  obtain ⟨l, rfl, hl⟩ := CrcFn.bytes_of hy
  have hl : By l := hl
  refine ⟨20000001, ?_⟩
  unfold palletlaw08_FrameWrites.f
  rw [live8', Option.bind_some, if_pos rfl]
  have el : ((CrcFn.cs l).length : Int) = (l.length : Int) := by rw [CrcFn.cs_len]
  rw [el]
  by_cases h : (l.length : Int) > 2000
  · rw [if_pos h]
  have hs : By (l ++ CrcFn.b3 (Crc.r24 l)) := hl.append (CrcFn.b3_by _)
  have hsl : (l ++ CrcFn.b3 (Crc.r24 l)).length = l.length + 3 := by rw [List.length_append]; rfl
  have r1 : frame_Read.f 20000001 (CrcFn.cs l) = some (rdF l) := Read_eq l hl (by omega) (by omega)
  have r2 : palletref08_Read.f 20000001 (CrcFn.cs l) = some (rdF l) := RRead_eq l hl (by omega) (by omega)
  have r3 : crc_Seal24.f (CrcFn.cs l) = some (cs (l ++ CrcFn.b3 (Crc.r24 l)), 0) := seal_eq l hl (by omega)
  have r4 := Read_eq (k := 20000001) (l ++ CrcFn.b3 (Crc.r24 l)) hs (by omega) (by omega)
  have r5 := RRead_eq (k := 20000001) (l ++ CrcFn.b3 (Crc.r24 l)) hs (by omega) (by omega)
  rw [if_neg h, Write_eq (by omega) a0 a1 n g hn hg, RWrite_eq (by omega) a0 a1 n g hn hg, Option.bind_some, Option.bind_some, r1, r2, r3, Option.bind_some, Option.bind_some, Option.bind_some]
  show ((frame_Read.f 20000001 (cs (l ++ CrcFn.b3 (Crc.r24 l)))).bind _) = _
  rw [r4, Option.bind_some]
  show ((palletref08_Read.f 20000001 (cs (l ++ CrcFn.b3 (Crc.r24 l)))).bind _) = _
  rw [r5, Option.bind_some, same_self, Option.bind_some, if_pos rfl, if_pos rfl, self4, if_pos rfl, if_pos rfl, if_pos rfl, self4, if_pos rfl, if_pos rfl, fcheck_eq (by omega), RCheck_eq, Option.bind_some, Option.bind_some, beq_self_eq_true]
end Go.Proofs.Ytogdelhofdelgaa.Pure
