/- The document's sealed texts and opened texts (layer 3), and the printed functions' own, as printed: one and the same answer. -/
import Derived.Test.YtogdelhofdelgaaCrcFn2
import Derived.Test.YtogdelhofdelgaaPrint0
import Derived.Test.YtogdelhofdelgaaPrint2
import Derived.Test.YtogdelhofdelgaaPrint8
import Derived.Test.YtogdelhofdelgaaPrint14
import Derived.Test.YtogdelhofdelgaaPrint19
set_option linter.unusedVariables false
set_option linter.unusedSimpArgs false
namespace Go.Proofs.Ytogdelhofdelgaa.CrcFn
open Go Go.RowKit Go.Proofs.Ytogdelhofdelgaa.Print Go.Proofs.YtogdelhofdelgaaW.PrintWords Go.Proofs.YtogdelhofdelgaaW.PrintLast Go.Proofs.YtogdelhofdelgaaW.PrintMore Go.Proofs.Ytogdelhofdelgaa.Crc
def sl24 (l : List Nat) : List Int × Int := if 1048576 < l.length then ([], 6) else (cs (l ++ b3 (r24 l)), 0)
def sl32 (l : List Nat) : List Int × Int := if 1048576 < l.length then ([], 6) else (cs (l ++ b4 (0xffffffff ^^^ r32 l)), 0)
theorem nums_iff {l m : List Nat} (hl : By l) (hm : By m) : (strOfNums (cs l)).toList = (strOfNums (cs m)).toList ↔ l = m := ⟨fun h => nums_inj hl hm h, fun h => by rw [h]⟩
theorem good24_iff' {l : List Nat} (h : 3 ≤ l.length) : good24 l ↔ l.take (l.length - 3) ++ b3 (r24 (l.take (l.length - 3))) = l := by
  constructor
  · intro g
    exact (good24_take h g).symm
  · intro g
    have g2 := congrArg (List.drop (l.length - 3)) g
    have e : (l.take (l.length - 3)).length = l.length - 3 := by rw [List.length_take]; omega
    rw [List.drop_left' e] at g2
    exact g2
theorem good32_iff' {l : List Nat} (h : 4 ≤ l.length) : good32 l ↔ l.take (l.length - 4) ++ b4 (0xffffffff ^^^ r32 (l.take (l.length - 4))) = l := by
  constructor
  · intro g
    exact (good32_take h g).symm
  · intro g
    have g2 := congrArg (List.drop (l.length - 4)) g
    have e : (l.take (l.length - 4)).length = l.length - 4 := by rw [List.length_take]; omega
    rw [List.drop_left' e] at g2
    exact g2
theorem Seal24_sl (l : List Nat) (hl : By l) (hn : l.length ≤ 10000000000) : crc_Seal24.f (cs l) = some (sl24 l) := Seal24_eq l hl hn
theorem RSeal24_eq {k : Nat} (l : List Nat) (hl : By l) (hn : l.length ≤ 10000000000) (hk : 1048576 < l.length ∨ 10 * l.length + 10 ≤ k) : palletref03_Seal24.f k (cs l) = some (sl24 l) := by
  unfold palletref03_Seal24.f sl24
  rw [cs_len]
  by_cases h : 1048576 < l.length
  · rw [if_pos (by omega), if_pos h]
  · rw [if_neg (by omega), if_neg h, RSum24_eq l hl hn (by omega), Option.bind_some, if_pos (show ([] : List Int).length + l.length < 140737488355328 by rw [List.length_nil]; omega), Option.bind_some, Option.bind_some, List.nil_append, cs_len, if_pos (by show l.length + 3 < 140737488355328; omega), cs_append]
    rfl
theorem ROpen24_eq {k : Nat} (l : List Nat) (hl : By l) (hn : l.length ≤ 10000000000) (hk : 10485760 + 10 ≤ k) : palletref03_Open24.f k (cs l) = some (op24 l) := by
  unfold palletref03_Open24.f op24
  rw [cs_len, w64 (by omega) (by omega)]
  by_cases h1 : l.length < 3
  · rw [if_pos (by omega), if_pos h1]
  rw [if_neg (by omega), if_neg h1]
  by_cases h2 : 1048579 < l.length
  · rw [if_pos (by omega), if_pos h2]
  have e : (l.take (l.length - 3)).length = l.length - 3 := by rw [List.length_take]; omega
  rw [if_neg (by omega), if_neg h2, if_pos (by omega), if_pos (by omega), show ((l.length : Int) - 3).toNat = l.length - 3 by omega, cs_take, cs_len, if_pos (show ([] : List Int).length + (l.take (l.length - 3)).length < 140737488355328 by rw [List.length_nil, e]; omega), Option.bind_some, List.nil_append, RSeal24_eq _ (By.take hl _) (by rw [e]; omega) (by rw [e]; omega), Option.bind_some]
  unfold sl24
  rw [if_neg (show ¬ 1048576 < (l.take (l.length - 3)).length by rw [e]; omega)]
  by_cases g : good24 l
  · rw [if_pos ((nums_iff (By.append (By.take hl _) (b3_by _)) hl).2 ((good24_iff' (by omega)).1 g)), if_pos g]
  · rw [if_neg (fun c => g ((good24_iff' (by omega)).2 ((nums_iff (By.append (By.take hl _) (b3_by _)) hl).1 c))), if_neg g]
theorem Same_eq {l m : List Nat} (hl : By l) (hm : By m) : palletref02_Same.f (cs l) (cs m) = some (decide (l = m)) := by
  unfold palletref02_Same.f
  rw [text_eq hl hm]
theorem Same_self (l : List Int) : palletref02_Same.f l l = some true := by
  unfold palletref02_Same.f
  rw [beq_self_eq_true]
theorem i64_le {a : Int} (h : (Lit.int .i64 a).wf = true) : -9223372036854775808 ≤ a ∧ a ≤ 9223372036854775807 := by
  simpa [Lit.wf, IntKind.min, IntKind.max, IntKind.signed, IntKind.bits] using h
end Go.Proofs.Ytogdelhofdelgaa.CrcFn
