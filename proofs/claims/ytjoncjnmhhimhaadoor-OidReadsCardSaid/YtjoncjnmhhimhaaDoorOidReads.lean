/- OidReads: the pure statement. Any bytes are the content of the identifier of the reference implementation, or of none. -/
import Derived.Test.YtjoncjnmhhimhaaDoorPOidRx1
import Derived.Test.YtjoncjnmhhimhaaDoorOidRead2
import Derived.Test.YtjoncjnmhhimhaaDoorOidAwake
import Derived.Test.YtjoncjnmhhimhaaDoorRef9
namespace Go.Proofs.YtjoncjnmhhimhaaDoor.Pure
set_option linter.unusedVariables false
set_option linter.unusedSimpArgs false
open Go.RowKit Go.Proofs.YtjoncjnmhhimhaaDoorW.PrintWords Go.Proofs.YtjoncjnmhhimhaaDoorW.PrintLast Go.Proofs.YtjoncjnmhhimhaaDoorW.PrintMore
open Go.Proofs.YtjoncjnmhhimhaaDoor.Oid Go.Proofs.YtjoncjnmhhimhaaDoor.Hand Go.Proofs.YtjoncjnmhhimhaaDoor.POidR

theorem reads_cmp (l b : List Int) (c : List Int) (hc : c.length = b.length) (hn : b.length ≤ 1000) : ∀ (d k i : Nat), i + d = c.length → d < k → c.take i = b.take i →
    pyxref09_Read.l1 k b l c (i : Int) = some (if c = b then (l, true) else ([], false)) := by
  intro d
  induction d with
  | zero =>
    intro k i h1 h2 h3
    obtain ⟨k, rfl⟩ : ∃ m, k = m + 1 := ⟨k - 1, by omega⟩
    have e : c = b := by
      rw [List.take_of_length_le (by omega), List.take_of_length_le (by omega)] at h3
      exact h3
    rw [pyxref09_Read.l1, if_neg (by omega), if_pos e]
  | succ d ih =>
    intro k i h1 h2 h3
    obtain ⟨k, rfl⟩ : ∃ m, k = m + 1 := ⟨k - 1, by omega⟩
    have hi : i < c.length := by omega
    have hi2 : i < b.length := by omega
    have r1 : rd c (i : Int) = c[i] := by simp [rd, List.getD, hi]
    have r2 : rd b (i : Int) = b[i] := by simp [rd, List.getD, hi2]
    rw [pyxref09_Read.l1, if_pos (by omega), if_pos (by omega), if_pos (by omega), r1, r2]
    by_cases he : c[i] = b[i]
    · rw [if_pos he, i64_in _ (by omega) (by omega)]
      have := ih k (i + 1) (by omega) (by omega) (by rw [List.take_succ_eq_append_getElem hi, List.take_succ_eq_append_getElem hi2, h3, he])
      rw [show ((i + 1 : Nat) : Int) = (i : Int) + 1 from by omega] at this
      exact this
    · rw [if_neg he, if_neg (fun e => he (by subst e; rfl))]
theorem reads_end (l b : List Int) (k : Nat) (hk : b.length + 3 ≤ k) (hb : b.length ≤ 1000) (hp : ∀ x ∈ l, 0 ≤ x) (F : Option (List Int × Bool)) 
    (hF : F = ((pyxref09_Content.f l).bind fun t => ((pyxref09_Valid.f l).bind fun v => (if v = true then (pyxref09_Read.j1 k b l t ((t.length : Int) != (b.length : Int))) else (pyxref09_Read.j1 k b l t true))))) :
    F = some (if validB l = true ∧ contentL l = b then (l, true) else ([], false)) := by
  rw [hF]
  unfold pyxref09_Content.f oid_Content.f pyxref09_Valid.f
  rw [if_pos (List.all_eq_true.2 (fun x hx => by simpa using hp x hx))]
  simp only [Option.bind_some]
  obtain ⟨k, rfl⟩ : ∃ m, k = m + 1 := ⟨k - 1, by omega⟩
  by_cases hv : validB l = true
  · rw [if_pos hv, if_pos hv, pyxref09_Read.j1]
    by_cases hlen : (contentL l).length = b.length
    · rw [show ((((contentL l).length : Int)) != (b.length : Int)) = false by simp [hlen], if_neg (by decide)]
      have := reads_cmp l b (contentL l) hlen hb (contentL l).length k 0 (by omega) (by omega) rfl
      rw [show ((0 : Nat) : Int) = 0 from rfl] at this
      rw [this]
      by_cases e : contentL l = b
      · rw [if_pos e, if_pos ⟨hv, e⟩]
      · rw [if_neg e, if_neg (fun h => e h.2)]
    · rw [show ((((contentL l).length : Int)) != (b.length : Int)) = true by simp; omega, if_pos rfl, if_neg (fun h => hlen (by rw [h.2]))]
  · rw [if_neg hv, pyxref09_Read.j1, if_pos rfl, if_neg (fun h => hv h.1)]

theorem reads_loop (b : List Int) (hb : b.length ≤ 1000) (hby : ∀ c ∈ b, 0 ≤ c ∧ c < 256) : ∀ (d k i : Nat) (out : List Int) (n : Int), i + d = b.length → d + b.length + 10 ≤ k → 0 ≤ n → n ≤ 4294967375 → (∀ x ∈ out, 0 ≤ x) → out.length ≤ 2 * i →
    pyxref09_Read.l0 k b out n (i : Int) = some (match refRd (b.drop i) out n with
      | some l => if validB l = true ∧ contentL l = b then (l, true) else ([], false)
      | none => ([], false)) := by
  intro d
  induction d with
  | zero =>
    intro k i out n h1 hk _ _ hp _
    obtain ⟨k, rfl⟩ : ∃ m, k = m + 1 := ⟨k - 1, by omega⟩
    have e : b.drop i = [] := List.drop_eq_nil_of_le (by omega)
    rw [pyxref09_Read.l0, if_neg (by omega), e, refRd]
    exact reads_end out b k (by omega) hb hp _ rfl
  | succ d ih =>
    intro k i out n h1 hk n0 n9 hp ho
    obtain ⟨k, rfl⟩ : ∃ m, k = m + 1 := ⟨k - 1, by omega⟩
    have hlt : i < b.length := by omega
    have hrd : rd b (i : Int) = b[i] := by simp [rd, List.getD, hlt]
    obtain ⟨c0, c9⟩ := hby b[i] (List.getElem_mem hlt)
    rw [pyxref09_Read.l0, if_pos (by omega), if_pos (by omega), hrd, List.drop_eq_getElem_cons hlt, refRd]
    obtain ⟨c, ec⟩ : ∃ c, c = b[i] := ⟨_, rfl⟩
    rw [← ec] at c0 c9 ⊢
    rw [i64_in c (by omega) (by omega), i64_in (n * 128) (by omega) (by omega), Int.tmod_eq_emod_of_nonneg c0, i64_in (n * 128 + c % 128) (by omega) (by omega)]
    have hnext : ∀ (out' : List Int) (n' : Int), 0 ≤ n' → n' ≤ 4294967375 → (∀ x ∈ out', 0 ≤ x) → out'.length ≤ 2 * (i + 1) → pyxref09_Read.l0 k b out' n' (wrap64 ((i : Int) + 1)) = some (match refRd (b.drop (i + 1)) out' n' with
      | some l => if validB l = true ∧ contentL l = b then (l, true) else ([], false)
      | none => ([], false)) := by
      intro out' n' q0 q1 q2 q3
      have := ih k (i + 1) out' n' (by omega) (by omega) q0 q1 q2 q3
      rw [show ((i + 1 : Nat) : Int) = (i : Int) + 1 from by omega] at this
      rw [i64_in _ (by omega) (by omega), this]
    have hm : ∀ y : Int, 0 ≤ y % 4294967296 := fun y => by omega
    by_cases g1 : n * 128 + c % 128 > 4294967375
    · rw [if_pos g1, if_pos g1]
    rw [if_neg g1, if_neg g1]
    by_cases g2 : c ≥ 128
    · rw [if_pos g2, if_pos g2]
      exact hnext out _ (by omega) (by omega) hp (by omega)
    rw [if_neg g2, if_neg g2]
    by_cases g3 : out ≠ []
    · have : 0 < out.length := List.length_pos_iff.2 g3
      rw [if_pos g3, if_pos (by omega), if_pos (by omega)]
      exact hnext _ 0 (by omega) (by omega) (fun x hx => by
        rcases List.mem_append.1 hx with hx | hx
        · exact hp x hx
        · simp only [List.mem_singleton] at hx; subst hx; exact hm _) (by simp; omega)
    have : out = [] := by simpa using g3
    rw [if_neg g3, if_neg (by rw [this]; simp)]
    have two : ∀ (a y : Int), 0 ≤ a → (∀ x ∈ [a, y % 4294967296], 0 ≤ x) := by
      intro a y ha x hx
      simp only [List.mem_cons, List.not_mem_nil, or_false] at hx
      rcases hx with rfl | rfl
      · exact ha
      · exact hm _
    by_cases g4 : n * 128 + c % 128 < 40
    · rw [if_pos g4, if_pos g4]
      exact hnext _ 0 (by omega) (by omega) (two _ _ (by omega)) (by simp; omega)
    rw [if_neg g4, if_neg g4]
    rw [i64_in (n * 128 + c % 128 - 40) (by omega) (by omega), i64_in (n * 128 + c % 128 - 80) (by omega) (by omega)]
    by_cases g5 : n * 128 + c % 128 < 80
    · rw [if_pos g5, if_pos g5]
      exact hnext _ 0 (by omega) (by omega) (two _ _ (by omega)) (by simp; omega)
    · rw [if_neg g5, if_neg g5]
      exact hnext _ 0 (by omega) (by omega) (two _ _ (by omega)) (by simp; omega)
theorem reads_ref (b : List Int) (hb : b.length ≤ 1000) (hby : ∀ c ∈ b, 0 ≤ c ∧ c < 256) (k : Nat) (hk : 2 * b.length + 10 ≤ k) : pyxref09_Read.f k b = some (refRead b) := by
  have := reads_loop b hb hby b.length k 0 [] 0 (by omega) (by omega) (by omega) (by omega) (by simp) (by simp)
  unfold pyxref09_Read.f refRead
  rw [show ((0 : Nat) : Int) = 0 from rfl, List.drop_zero] at this
  exact this

theorem OidReads : pyxlaw09_OidReads.Pure := by
  intro l0 _ _ hwf
  have hby : ∀ c ∈ l0, 0 ≤ c ∧ c < 256 := by
    intro c hc
    have := hwf c hc
    simp [Lit.wf, IntKind.min, IntKind.max, IntKind.signed, IntKind.bits] at this
    omega
  refine ⟨1000, ?_⟩
  unfold pyxlaw09_OidReads.f pyxlaw09_awake.f
  simp only [Option.bind_some]
  rw [if_pos trivial]
  obtain ⟨k, hk⟩ : ∃ k, 1000 = k + 1 := ⟨999, rfl⟩
  rw [hk, pyxlaw09_OidReads.j0]
  by_cases h5 : 300 < l0.length
  · rw [decide_eq_true (by omega), if_pos rfl]
    rfl
  · rw [decide_eq_false (by omega), if_neg (by decide), reads_ref l0 (by omega) hby k (by omega)]
    unfold oid_Read.f
    rw [if_pos ⟨by omega, List.all_eq_true.2 (fun c hc => by obtain ⟨h0, h1⟩ := hby c hc; simp; omega)⟩]
    simp only [Option.bind_some, slices_Equal_uint32_uint32.f]
    rw [← read_eq l0 hby, decide_eq_true rfl, if_pos rfl, if_pos (by simp)]
    rcases readL_two l0 with ⟨l, h⟩ | h
    · obtain ⟨hv, hp, hc⟩ := readL_some hby h
      rw [h]
      simp only
      rw [if_pos trivial]
      unfold oid_Content.f
      rw [if_pos (List.all_eq_true.2 (fun x hx => by simpa using hp x hx)), if_pos hv]
      simp only [Option.bind_some, pyxref01_Same.f, hc]
      simp
    · rw [h]
      simp
end Go.Proofs.YtjoncjnmhhimhaaDoor.Pure
