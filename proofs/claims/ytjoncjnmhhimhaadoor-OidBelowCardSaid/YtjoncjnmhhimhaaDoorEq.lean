/- Equality of two slices of numbers: the printed loops come to the equality of the lists. -/
import Derived.Test.YtjoncjnmhhimhaaDoorPEqx
import Derived.Test.YtjoncjnmhhimhaaDoorLaid
namespace Go.Proofs.YtjoncjnmhhimhaaDoor.Hand
set_option linter.unusedVariables false
set_option linter.unusedSimpArgs false
open Go.RowKit Go.Proofs.YtjoncjnmhhimhaaDoorW.PrintWords Go.Proofs.YtjoncjnmhhimhaaDoorW.PrintLast Go.Proofs.YtjoncjnmhhimhaaDoorW.PrintMore
theorem i64_in (x : Int) (h0 : -9223372036854775808 ≤ x) (h1 : x ≤ 9223372036854775807) : wrap64 x = x := by unfold wrap64; omega
theorem u64_in (x : Int) (h0 : 0 ≤ x) (h1 : x < 18446744073709551616) : IntKind.u64.wrap x = x := by rw [IntKind.wrap_u64]; omega

theorem slices_Equal_uint32_uint32_loop (a b : List Int) (hab : a.length = b.length) (hn : a.length ≤ 9223372036854775807) : ∀ (d k i : Nat), i + d = a.length → d < k →
    PEq.slices_Equal_uint32_uint32.l0 k a b (a.length : Int) (i : Int) = some (decide (a.drop i = b.drop i)) := by
  intro d
  induction d with
  | zero =>
    intro k i h1 h3
    obtain ⟨k, rfl⟩ : ∃ m, k = m + 1 := ⟨k - 1, by omega⟩
    have e1 : a.drop i = [] := List.drop_eq_nil_of_le (by omega)
    have e2 : b.drop i = [] := List.drop_eq_nil_of_le (by omega)
    simp only [PEq.slices_Equal_uint32_uint32.l0]
    rw [if_neg (by omega), e1, e2]
    simp
  | succ d ih =>
    intro k i h1 h3
    obtain ⟨k, rfl⟩ : ∃ m, k = m + 1 := ⟨k - 1, by omega⟩
    have hlt : i < a.length := by omega
    have hlt2 : i < b.length := by omega
    have r1 : rd a (i : Int) = a[i] := by simp [rd, List.getD, hlt]
    have r2 : rd b (i : Int) = b[i] := by simp [rd, List.getD, hlt2]
    simp only [PEq.slices_Equal_uint32_uint32.l0]
    rw [if_pos (by omega), if_pos (by omega), if_pos (by omega), if_pos (by omega), r1, r2, i64_in _ (by omega) (by omega)]
    have hd : (a.drop i = b.drop i) ↔ (a[i] = b[i] ∧ a.drop (i + 1) = b.drop (i + 1)) := by rw [List.drop_eq_getElem_cons hlt, List.drop_eq_getElem_cons hlt2, List.cons.injEq]
    have := ih k (i + 1) (by omega) (by omega)
    rw [show ((i + 1 : Nat) : Int) = (i : Int) + 1 from by omega] at this
    by_cases he : a[i] = b[i]
    · rw [if_pos he, this]
      congr 1
      rw [decide_eq_decide, hd]
      exact ⟨fun h => ⟨he, h⟩, fun h => h.2⟩
    · rw [if_neg he]
      congr 1
      symm
      rw [decide_eq_false_iff_not, hd]
      exact fun h => he h.1
def slices_Equal_uint32_uint32.f (l0 l1 : List Int) : Option Bool := some (decide (l0 = l1))
theorem slices_Equal_uint32_uint32.calls (A0 : Option Addr) (c0 : Nat) (l0 : List Int) (A1 : Option Addr) (c1 : Nat) (l1 : List Int) (r : Bool) (w : World) (hr0 : Kd.C (Kd.int .u32) w A0 l0.length l0) (hc0 : l0.length ≤ c0) (hr1 : Kd.C (Kd.int .u32) w A1 l1.length l1) (hc1 : l1.length ≤ c1) (h : slices_Equal_uint32_uint32.f l0 l1 = some r) :
    Calls Tryd.prog 15 #[.slice A0 l0.length c0, .slice A1 l1.length c1] w fun e w' => e = .returned (.bool r) ∧ Drawn0 w w' := by
  refine PEq.slices_Equal_uint32_uint32.calls (l0.length + 1) A0 c0 l0 A1 c1 l1 r w hr0 hc0 hr1 hc1 ?_
  obtain rfl := Option.some.inj h
  have hn := (Kd.reads_of_C (d := (0 : Int)) hr0).2.1
  unfold PEq.slices_Equal_uint32_uint32.f
  by_cases hl : l0.length = l1.length
  · rw [if_pos (by omega)]
    have := slices_Equal_uint32_uint32_loop l0 l1 hl hn l0.length (l0.length + 1) 0 (by omega) (by omega)
    rw [show ((0 : Nat) : Int) = 0 from rfl] at this
    rw [this]
    simp
  · rw [if_neg (by omega)]
    congr 1
    symm
    rw [decide_eq_false_iff_not]
    intro e
    exact hl (congrArg List.length e)

theorem slices_Equal_int_int_loop (a b : List Int) (hab : a.length = b.length) (hn : a.length ≤ 9223372036854775807) : ∀ (d k i : Nat), i + d = a.length → d < k →
    PEq.slices_Equal_int_int.l0 k a b (a.length : Int) (i : Int) = some (decide (a.drop i = b.drop i)) := by
  intro d
  induction d with
  | zero =>
    intro k i h1 h3
    obtain ⟨k, rfl⟩ : ∃ m, k = m + 1 := ⟨k - 1, by omega⟩
    have e1 : a.drop i = [] := List.drop_eq_nil_of_le (by omega)
    have e2 : b.drop i = [] := List.drop_eq_nil_of_le (by omega)
    simp only [PEq.slices_Equal_int_int.l0]
    rw [if_neg (by omega), e1, e2]
    simp
  | succ d ih =>
    intro k i h1 h3
    obtain ⟨k, rfl⟩ : ∃ m, k = m + 1 := ⟨k - 1, by omega⟩
    have hlt : i < a.length := by omega
    have hlt2 : i < b.length := by omega
    have r1 : rd a (i : Int) = a[i] := by simp [rd, List.getD, hlt]
    have r2 : rd b (i : Int) = b[i] := by simp [rd, List.getD, hlt2]
    simp only [PEq.slices_Equal_int_int.l0]
    rw [if_pos (by omega), if_pos (by omega), if_pos (by omega), if_pos (by omega), r1, r2, i64_in _ (by omega) (by omega)]
    have hd : (a.drop i = b.drop i) ↔ (a[i] = b[i] ∧ a.drop (i + 1) = b.drop (i + 1)) := by rw [List.drop_eq_getElem_cons hlt, List.drop_eq_getElem_cons hlt2, List.cons.injEq]
    have := ih k (i + 1) (by omega) (by omega)
    rw [show ((i + 1 : Nat) : Int) = (i : Int) + 1 from by omega] at this
    by_cases he : a[i] = b[i]
    · rw [if_pos he, this]
      congr 1
      rw [decide_eq_decide, hd]
      exact ⟨fun h => ⟨he, h⟩, fun h => h.2⟩
    · rw [if_neg he]
      congr 1
      symm
      rw [decide_eq_false_iff_not, hd]
      exact fun h => he h.1
def slices_Equal_int_int.f (l0 l1 : List Int) : Option Bool := some (decide (l0 = l1))
theorem slices_Equal_int_int.calls (A0 : Option Addr) (c0 : Nat) (l0 : List Int) (A1 : Option Addr) (c1 : Nat) (l1 : List Int) (r : Bool) (w : World) (hr0 : Kd.C (Kd.int .i64) w A0 l0.length l0) (hc0 : l0.length ≤ c0) (hr1 : Kd.C (Kd.int .i64) w A1 l1.length l1) (hc1 : l1.length ≤ c1) (h : slices_Equal_int_int.f l0 l1 = some r) :
    Calls Tryd.prog 29 #[.slice A0 l0.length c0, .slice A1 l1.length c1] w fun e w' => e = .returned (.bool r) ∧ Drawn0 w w' := by
  refine PEq.slices_Equal_int_int.calls (l0.length + 1) A0 c0 l0 A1 c1 l1 r w hr0 hc0 hr1 hc1 ?_
  obtain rfl := Option.some.inj h
  have hn := (Kd.reads_of_C (d := (0 : Int)) hr0).2.1
  unfold PEq.slices_Equal_int_int.f
  by_cases hl : l0.length = l1.length
  · rw [if_pos (by omega)]
    have := slices_Equal_int_int_loop l0 l1 hl hn l0.length (l0.length + 1) 0 (by omega) (by omega)
    rw [show ((0 : Nat) : Int) = 0 from rfl] at this
    rw [this]
    simp
  · rw [if_neg (by omega)]
    congr 1
    symm
    rw [decide_eq_false_iff_not]
    intro e
    exact hl (congrArg List.length e)

theorem pyxref01_Same_loop (a b : List Int) (hab : a.length = b.length) (hn : a.length ≤ 9223372036854775807) : ∀ (d k i : Nat), i + d = a.length → d < k →
    PEq.pyxref01_Same.l0 k a b (i : Int) = some (decide (a.drop i = b.drop i)) := by
  intro d
  induction d with
  | zero =>
    intro k i h1 h3
    obtain ⟨k, rfl⟩ : ∃ m, k = m + 1 := ⟨k - 1, by omega⟩
    have e1 : a.drop i = [] := List.drop_eq_nil_of_le (by omega)
    have e2 : b.drop i = [] := List.drop_eq_nil_of_le (by omega)
    simp only [PEq.pyxref01_Same.l0]
    rw [if_neg (by omega), e1, e2]
    simp
  | succ d ih =>
    intro k i h1 h3
    obtain ⟨k, rfl⟩ : ∃ m, k = m + 1 := ⟨k - 1, by omega⟩
    have hlt : i < a.length := by omega
    have hlt2 : i < b.length := by omega
    have r1 : rd a (i : Int) = a[i] := by simp [rd, List.getD, hlt]
    have r2 : rd b (i : Int) = b[i] := by simp [rd, List.getD, hlt2]
    simp only [PEq.pyxref01_Same.l0]
    rw [if_pos (by omega), if_pos (by omega), if_pos (by omega), r1, r2, i64_in _ (by omega) (by omega)]
    have hd : (a.drop i = b.drop i) ↔ (a[i] = b[i] ∧ a.drop (i + 1) = b.drop (i + 1)) := by rw [List.drop_eq_getElem_cons hlt, List.drop_eq_getElem_cons hlt2, List.cons.injEq]
    have := ih k (i + 1) (by omega) (by omega)
    rw [show ((i + 1 : Nat) : Int) = (i : Int) + 1 from by omega] at this
    by_cases he : a[i] = b[i]
    · rw [if_pos he, this]
      congr 1
      rw [decide_eq_decide, hd]
      exact ⟨fun h => ⟨he, h⟩, fun h => h.2⟩
    · rw [if_neg he]
      congr 1
      symm
      rw [decide_eq_false_iff_not, hd]
      exact fun h => he h.1
def pyxref01_Same.f (l0 l1 : List Int) : Option Bool := some (decide (l0 = l1))
theorem pyxref01_Same.calls (A0 : Option Addr) (c0 : Nat) (l0 : List Int) (A1 : Option Addr) (c1 : Nat) (l1 : List Int) (r : Bool) (w : World) (hr0 : Kd.C (Kd.int .u8) w A0 l0.length l0) (hc0 : l0.length ≤ c0) (hr1 : Kd.C (Kd.int .u8) w A1 l1.length l1) (hc1 : l1.length ≤ c1) (h : pyxref01_Same.f l0 l1 = some r) :
    Calls Tryd.prog 19 #[.slice A0 l0.length c0, .slice A1 l1.length c1] w fun e w' => e = .returned (.bool r) ∧ Drawn0 w w' := by
  refine PEq.pyxref01_Same.calls (l0.length + 1) A0 c0 l0 A1 c1 l1 r w hr0 hc0 hr1 hc1 ?_
  obtain rfl := Option.some.inj h
  have hn := (Kd.reads_of_C (d := (0 : Int)) hr0).2.1
  unfold PEq.pyxref01_Same.f
  by_cases hl : l0.length = l1.length
  · rw [if_pos (by omega)]
    have := pyxref01_Same_loop l0 l1 hl hn l0.length (l0.length + 1) 0 (by omega) (by omega)
    rw [show ((0 : Nat) : Int) = 0 from rfl] at this
    rw [this]
    simp
  · rw [if_neg (by omega)]
    congr 1
    symm
    rw [decide_eq_false_iff_not]
    intro e
    exact hl (congrArg List.length e)

end Go.Proofs.YtjoncjnmhhimhaaDoor.Hand
