/- What any bytes are, as an event, and as a log, or what is wrong, and where: the program and the document say the same. Conditions: none but that each number is of its kind, and the list's length a slice's. -/
import Derived.Test.YtcbjbgleflbpmaaDoorBaseEventReads
import Derived.Test.YtcbjbgleflbpmaaDoorPrint0
import Derived.Test.YtcbjbgleflbpmaaDoorPrint5
import Derived.Test.YtcbjbgleflbpmaaDoorPrint10
import Derived.Test.YtcbjbgleflbpmaaDoorPrint11
import Derived.Test.YtcbjbgleflbpmaaDoorPrint12
import Derived.Test.YtcbjbgleflbpmaaDoorPrint13
import Derived.Test.YtcbjbgleflbpmaaDoorPrint16
import Derived.Test.YtcbjbgleflbpmaaDoorPrint17
import Derived.Test.YtcbjbgleflbpmaaDoorPrint20
import Derived.Test.YtcbjbgleflbpmaaDoorPrint22
import Derived.Test.YtcbjbgleflbpmaaDoorPrint23
set_option linter.unusedVariables false
set_option linter.unusedSimpArgs false
namespace Go.Proofs.YtcbjbgleflbpmaaDoor.Pure
open Go Go.RowKit Go.Proofs.YtcbjbgleflbpmaaDoor.Print Go.Proofs.YtcbjbgleflbpmaaDoorW.PrintWords Go.Proofs.YtcbjbgleflbpmaaDoorW.PrintLast Go.Proofs.YtcbjbgleflbpmaaDoorW.PrintMore Go.Proofs.YtcbjbgleflbpmaaDoor.Ev19 Go.Proofs.YtcbjbgleflbpmaaDoor.Wire Go.Proofs.YtcbjbgleflbpmaaDoor.Wire2 Go.Proofs.YtcbjbgleflbpmaaDoor.WireSpec
theorem dl_len (l : List Nat) : ∀ (n a : Nat) (xs : List E), (dl l n a xs).1.length ≤ xs.length + n
  | 0, a, xs => by
    rw [dl]
    split <;> simp
  | n + 1, a, xs => by
    rw [dl]
    split
    · split
      · simp
      · have := dl_len l n (re l a).2.2 (xs ++ [(re l a).2.1])
        rw [List.length_append, List.length_singleton] at this
        omega
    · simp
theorem dc_len (l : List Nat) : (dc l).1.length ≤ 20000 := by
  unfold dc
  split
  · simp
  split
  · simp
  split
  · unfold dcb
    split
    · split
      · split
        · simp
        · have := dl_len (l.take (l.length - 4)) (WireSpec.dv 0 0 ((l.take (l.length - 4)).drop 5)).1 (5 + (WireSpec.dv 0 0 ((l.take (l.length - 4)).drop 5)).2.1) []
          rw [List.length_nil] at this
          omega
      · simp
    · simp
  · simp
theorem read_neg {k : Nat} (l : List Int) (a : Int) (h : a < 0) : event_Read.f k l a = some (0, 0, 0, 0, 0, 0, 1) := by
  unfold event_Read.f wire_TakeRecord.f wire_span.f
  rw [if_pos h]
  rfl
theorem rread_neg {k : Nat} (l : List Int) (a : Int) (h : a < 0) : palletref19_Read.f k l a = some (0, 0, 0, 0, 0, 0, 1) := by
  unfold palletref19_Read.f palletref02_TakeRecord.f
  rw [if_pos h]
  rfl
theorem reads_same {k : Nat} (l : List Nat) (hl : By l) (hn : l.length ≤ 5000) (a : Int) (hk : 20000 ≤ k) : ∃ v, event_Read.f k (cs l) a = some v ∧ palletref19_Read.f k (cs l) a = some v := by
  by_cases h : a < 0
  · exact ⟨_, read_neg _ a h, rread_neg _ a h⟩
  · obtain ⟨n, rfl⟩ : ∃ n : Nat, a = (n : Int) := ⟨a.toNat, by omega⟩
    exact ⟨_, Read_eq l hl (by omega) n (by omega), RRead_eq l hl (by omega) n (by omega)⟩
theorem round {k : Nat} (l : List Nat) (hl : By l) (hn : l.length ≤ 10000) (hk : 11000000 ≤ k) : ∃ v, event_Decode.f k (cs l) = some v ∧ palletref19_Decode.f k (cs l) = some v ∧ palletref19_Same.f k v.1 v.1 = some true := by
  refine ⟨_, Decode_eq l hl (by omega) hk, RDecode_eq l hl (by omega) hk, ?_⟩
  have hlen : (dc l).1.length ≤ 20000 := dc_len l
  rw [RSame_eqE _ _ (by omega) (by omega), decide_eq_true rfl]
theorem seal_eq (l : List Nat) (hl : By l) (hn : l.length ≤ 5000) : crc_Seal32.f (cs l) = some (cs (l ++ CrcFn.b4 (0xffffffff ^^^ Crc.r32 l)), 0) := by
  have h := CrcFn.Seal32_eq l hl (by omega)
  rw [if_neg (by omega)] at h
  exact h
theorem EventReads : ∀ (l0 : List Int) (a1 : Int), l0.length ≤ maxLen → l0.length * 1 ≤ 140737488351232 → (∀ y ∈ l0, (Lit.int .u8 y).wf = true) → (Lit.int .i64 a1).wf = true → ∃ k, palletlaw19_EventReads.f k l0 a1 = some true := by
  intro m a hm1 hm2 hm ha
  obtain ⟨l, rfl, hl⟩ := bytes_of hm
  refine ⟨11100000, ?_⟩
  unfold palletlaw19_EventReads.f
  rw [live_eq (by omega), Option.bind_some, if_pos rfl]
  by_cases hn : ((cs l).length : Int) > 5000
  · rw [if_pos hn]
  rw [if_neg hn]
  rw [cs_len] at hn
  obtain ⟨v, e1, e2⟩ := reads_same l hl (by omega) a (k := 11100000) (by omega)
  rw [e1, e2, Option.bind_some, Option.bind_some, if_neg (by simp), if_pos rfl, show (v.2.2.2.2.2.2 != v.2.2.2.2.2.2) = false by simp, show (11100000 : Nat) = 11099999 + 1 from rfl, palletlaw19_EventReads.j0, if_neg (by simp), seal_eq l hl (by omega), Option.bind_some, if_pos rfl]
  obtain ⟨u, f1, f2, f3⟩ := round l hl (by omega) (k := 11099999) (by omega)
  obtain ⟨s, g1, g2, g3⟩ := round (l ++ CrcFn.b4 (0xffffffff ^^^ Crc.r32 l)) (hl.append (CrcFn.b4_by _)) (by rw [List.length_append, show (CrcFn.b4 _).length = 4 from rfl]; omega) (k := 11099999) (by omega)
  rw [f1, f2, Option.bind_some, Option.bind_some, f3, Option.bind_some, if_pos rfl, if_pos rfl, if_pos rfl, g1, g2, Option.bind_some, Option.bind_some, g3, Option.bind_some, if_pos rfl, if_pos rfl, if_pos rfl]
end Go.Proofs.YtcbjbgleflbpmaaDoor.Pure
