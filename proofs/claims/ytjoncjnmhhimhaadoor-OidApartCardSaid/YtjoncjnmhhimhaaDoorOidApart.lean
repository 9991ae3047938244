/- OidApart: the pure statement. Two different identifiers have different texts and contents. -/
import Derived.Test.YtjoncjnmhhimhaaDoorPOidAx1
import Derived.Test.YtjoncjnmhhimhaaDoorOidRead2
import Derived.Test.YtjoncjnmhhimhaaDoorOidAwake
import Derived.Test.YtjoncjnmhhimhaaDoorRef9
namespace Go.Proofs.YtjoncjnmhhimhaaDoor.Pure
set_option linter.unusedVariables false
set_option linter.unusedSimpArgs false
open Go.RowKit Go.Proofs.YtjoncjnmhhimhaaDoorW.PrintWords Go.Proofs.YtjoncjnmhhimhaaDoorW.PrintLast Go.Proofs.YtjoncjnmhhimhaaDoorW.PrintMore
open Go.Proofs.YtjoncjnmhhimhaaDoor.Oid Go.Proofs.YtjoncjnmhhimhaaDoor.Hand Go.Proofs.YtjoncjnmhhimhaaDoor.POidA

theorem u32_pos {l : List Int} (h : ∀ x ∈ l, (Lit.int .u32 x).wf = true) : (l.all fun x => decide (0 ≤ x)) = true := by
  apply List.all_eq_true.2
  intro x hx
  have := h x hx
  simp [Lit.wf, IntKind.min, IntKind.max, IntKind.signed, IntKind.bits] at this
  simp
  omega
theorem apart_true (k : Nat) (l0 l1 : List Int) : pyxlaw09_OidApart.j0 (k + 1) l0 l1 true = some true := by
  rw [pyxlaw09_OidApart.j0, if_pos rfl]
  rfl
theorem OidApart : pyxlaw09_OidApart.Pure := by
  intro l0 l1 _ _ hw0 _ _ hw1
  refine ⟨1, ?_⟩
  have q0 := u32_pos hw0
  have q1 := u32_pos hw1
  have p0 : ∀ x ∈ l0, 0 ≤ x := fun x hx => by simpa using List.all_eq_true.1 q0 x hx
  have p1 : ∀ x ∈ l1, 0 ≤ x := fun x hx => by simpa using List.all_eq_true.1 q1 x hx
  unfold pyxlaw09_OidApart.f pyxlaw09_awake.f pyxref09_Valid.f
  simp only [Option.bind_some]
  rw [if_pos trivial]
  by_cases h0 : (l0.length : Int) > 100
  · rw [if_pos h0, apart_true]
  by_cases h1 : (l1.length : Int) > 100
  · rw [if_neg h0, if_pos h1, apart_true]
  rw [if_neg h0, if_neg h1]
  by_cases v0 : validB l0 = true
  · rw [if_pos v0]
    by_cases v1 : validB l1 = true
    · rw [v1]
      show pyxlaw09_OidApart.j0 1 l0 l1 false = some true
      rw [pyxlaw09_OidApart.j0, if_neg (by decide)]
      unfold slices_Equal_uint32_uint32.f oid_Text.f oid_Content.f pyxref01_Same.f textB
      rw [if_pos q0, if_pos q1, if_pos q0, if_pos q1, if_pos v0, if_pos v1, if_pos v0, if_pos v1]
      simp only [Option.bind_some]
      by_cases e : l0 = l1
      · subst e
        simp
      · have ht : ¬ textL l0 = textL l1 := fun h => e (text_inj v0 p0 v1 p1 h)
        have hc : ¬ contentL l0 = contentL l1 := fun h => e (content_inj v0 p0 v1 p1 h)
        have ht2 : ((⟨(textL l0).toArray⟩ : ByteArray).toList == (⟨(textL l1).toArray⟩ : ByteArray).toList) = false := by
          rw [Lib.toList_data, Lib.toList_data]
          simpa using ht
        rw [ht2, decide_eq_false e, decide_eq_false hc]
        simp
    · rw [Bool.eq_false_iff.2 v1]
      exact apart_true 0 l0 l1
  · rw [if_neg v0, apart_true]
end Go.Proofs.YtjoncjnmhhimhaaDoor.Pure
