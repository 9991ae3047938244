/- pyxref09.Valid and pyxref09.Content come to the same plain functions as the program's Valid and Content. -/
import Derived.Test.YtjoncjnmhhimhaaDoorPRef9x
import Derived.Test.YtjoncjnmhhimhaaDoorOidContent
import Derived.Test.YtjoncjnmhhimhaaDoorOidPlain2
namespace Go.Proofs.YtjoncjnmhhimhaaDoor.Hand
set_option linter.unusedVariables false
set_option linter.unusedSimpArgs false
open Go.RowKit Go.Proofs.YtjoncjnmhhimhaaDoorW.PrintWords Go.Proofs.YtjoncjnmhhimhaaDoorW.PrintLast Go.Proofs.YtjoncjnmhhimhaaDoorW.PrintMore
open Go.Proofs.YtjoncjnmhhimhaaDoor.Oid

theorem ref9_valid (l : List Int) (k : Nat) (hk : 24 ≤ k) : PRef9.pyxref09_Valid.f k l = some (validB l) := by
  have hloop : ∀ (d k i : Nat), i + d = l.length → l.length ≤ 20 → d < k → PRef9.pyxref09_Valid.l0 k l (i : Int) = some ((l.drop i).all fun n => decide (n < 4294967216)) := by
    intro d
    induction d with
    | zero =>
      intro k i h1 _ h3
      obtain ⟨k, rfl⟩ : ∃ m, k = m + 1 := ⟨k - 1, by omega⟩
      have : l.drop i = [] := List.drop_eq_nil_of_le (by omega)
      rw [PRef9.pyxref09_Valid.l0, if_neg (by omega), this]
      rfl
    | succ d ih =>
      intro k i h1 hl h3
      obtain ⟨k, rfl⟩ : ∃ m, k = m + 1 := ⟨k - 1, by omega⟩
      have hlt : i < l.length := by omega
      have hrd : rd l (i : Int) = l[i] := by simp [rd, List.getD, hlt]
      rw [PRef9.pyxref09_Valid.l0, if_pos (by omega), if_pos (by omega), hrd, List.drop_eq_getElem_cons hlt, List.all_cons]
      by_cases hn : l[i] < 4294967216
      · rw [if_neg (by omega), i64_in _ (by omega) (by omega), decide_eq_true hn, Bool.true_and]
        have := ih k (i + 1) (by omega) hl (by omega)
        rw [show ((i + 1 : Nat) : Int) = (i : Int) + 1 from by omega] at this
        exact this
      · rw [if_pos (by omega), decide_eq_false hn, Bool.false_and]
  have hj : ∀ b k, 23 ≤ k → l.length ≤ 20 → PRef9.pyxref09_Valid.j0 k l b = some (!b && l.all fun n => decide (n < 4294967216)) := by
    intro b k hk hl
    obtain ⟨k, rfl⟩ : ∃ m, k = m + 1 := ⟨k - 1, by omega⟩
    rw [PRef9.pyxref09_Valid.j0]
    cases b with
    | true => rw [if_pos rfl]; rfl
    | false =>
      rw [if_neg (by decide)]
      have := hloop l.length k 0 (by omega) hl (by omega)
      rw [show ((0 : Nat) : Int) = 0 from rfl] at this
      rw [this]
      rfl
  have hj1 : ∀ k, 23 ≤ k → PRef9.pyxref09_Valid.j0 k l true = some false := by
    intro k hk
    obtain ⟨k, rfl⟩ : ∃ m, k = m + 1 := ⟨k - 1, by omega⟩
    rw [PRef9.pyxref09_Valid.j0, if_pos rfl]
  have no : ¬ (2 ≤ l.length ∧ l.length ≤ 20 ∧ l.getD 0 0 ≤ 2 ∧ (2 ≤ l.getD 0 0 ∨ l.getD 1 0 < 40) ∧ ∀ n ∈ l, n < 4294967216) → validB l = false := fun h => Bool.eq_false_iff.2 (fun e => h ((valid_iff l).1 e))
  unfold PRef9.pyxref09_Valid.f
  by_cases h1 : l.length < 2
  · rw [if_pos (by omega), hj1 k (by omega), no (by omega)]
  rw [if_neg (by omega)]
  by_cases h2 : 20 < l.length
  · rw [if_pos (by omega), hj1 k (by omega), no (by omega)]
  rw [if_neg (by omega), if_pos (by omega)]
  have r0 : rd l 0 = l.getD 0 0 := rfl
  have r1 : rd l 1 = l.getD 1 0 := rfl
  rw [r0, r1]
  by_cases h3 : 2 < l.getD 0 0
  · rw [if_pos (by omega), hj1 k (by omega), no (by omega)]
  rw [if_neg (by omega)]
  have fin : (2 ≤ l.getD 0 0 ∨ l.getD 1 0 < 40) → some (l.all fun n => decide (n < 4294967216)) = some (validB l) := by
    intro h4
    unfold validB
    rw [decide_eq_true (by omega : 2 ≤ l.length), decide_eq_true (by omega : l.length ≤ 20), decide_eq_true (by omega : l.getD 0 0 ≤ 2)]
    have : (decide (2 ≤ l.getD 0 0) || decide (l.getD 1 0 < 40)) = true := by simpa using h4
    rw [this]
    simp
  by_cases h4 : l.getD 0 0 < 2
  · rw [if_pos h4, if_pos (by omega)]
    by_cases h5 : l.getD 1 0 < 40
    · rw [decide_eq_false (by omega), hj false k (by omega) (by omega)]
      exact fin (.inr h5)
    · rw [decide_eq_true (by omega), hj1 k (by omega), no (by omega)]
  · rw [if_neg h4, hj false k (by omega) (by omega)]
    exact fin (.inl (by omega))

def pyxref09_Valid.f (l0 : List Int) : Option Bool := some (validB l0)
theorem pyxref09_Valid.calls (A0 : Option Addr) (c0 : Nat) (l0 : List Int) (r : Bool) (w : World) (hr0 : Kd.C (Kd.int .u32) w A0 l0.length l0) (hc0 : l0.length ≤ c0) (h : pyxref09_Valid.f l0 = some r) :
    Calls Tryd.prog 23 #[.slice A0 l0.length c0] w fun e w' => e = .returned (.bool r) ∧ Drawn0 w w' :=
  PRef9.pyxref09_Valid.calls 24 A0 c0 l0 r w hr0 hc0 ((ref9_valid l0 24 (by omega)).trans h)

theorem ref9_group_loop : ∀ (j k n : Nat) (out : List Int), n < 128 ^ j → n < 1000000000000000 → j < k → out.length + j ≤ 1000 → PRef9.pyxref09_group.l0 k (n : Int) out = some ((if n = 0 then [] else grpL n 128) ++ out) := by
  intro j
  induction j with
  | zero =>
    intro k n out h1 hb h2 h3
    obtain ⟨k, rfl⟩ : ∃ m, k = m + 1 := ⟨k - 1, by omega⟩
    have : n = 0 := by simp at h1; omega
    subst this
    rw [PRef9.pyxref09_group.l0, if_neg (by omega), if_pos rfl]
    rfl
  | succ j ih =>
    intro k n out h1 hb h2 h3
    obtain ⟨k, rfl⟩ : ∃ m, k = m + 1 := ⟨k - 1, by omega⟩
    rw [PRef9.pyxref09_group.l0]
    by_cases h0 : n = 0
    · subst h0
      rw [if_neg (by omega), if_pos rfl]
      rfl
    · rw [if_pos (by omega), if_neg h0]
      have e1 : (wrap64 (128 + (Int.tmod (n : Int) 128))) % 256 = ((n % 128 + 128 : Nat) : Int) := by
        rw [Int.tmod_eq_emod_of_nonneg (by omega), i64_in _ (by omega) (by omega)]
        omega
      have e2 : wrap64 (Int.tdiv (n : Int) 128) = ((n / 128 : Nat) : Int) := by
        rw [Int.tdiv_eq_ediv_of_nonneg (by omega), i64_in _ (by omega) (by omega)]
        omega
      rw [e1, e2]
      simp only [Option.bind_some]
      rw [if_pos (by simp; omega)]
      have hdiv : n / 128 < 128 ^ j := by rw [Nat.pow_succ] at h1; omega
      rw [ih k (n / 128) _ hdiv (by omega) (by omega) (by simp; omega)]
      by_cases h128 : n < 128
      · rw [show n / 128 = 0 by omega, if_pos rfl, grpL_small h128]
        rfl
      · rw [if_neg (by omega), grpL_big h128]
        simp
theorem ref9_group (k : Nat) (n : Int) (h0 : 0 ≤ n) (h1 : n < 1000000000000) (hk : 10 ≤ k) : PRef9.pyxref09_group.f k n = some (grpL n.toNat 0) := by
  obtain ⟨m, rfl⟩ := Int.eq_ofNat_of_zero_le h0
  unfold PRef9.pyxref09_group.f
  rw [Int.tdiv_eq_ediv_of_nonneg (by omega), Int.tmod_eq_emod_of_nonneg (by omega), i64_in _ (by omega) (by omega), show ((m : Int) / 128) = ((m / 128 : Nat) : Int) by omega, show (m : Int) % 128 % 256 = ((m % 128 + 0 : Nat) : Int) by omega]
  rw [ref9_group_loop 6 k (m / 128) _ (by omega) (by omega) (by omega) (by simp), Int.toNat_natCast]
  by_cases h128 : m < 128
  · rw [show m / 128 = 0 by omega, if_pos rfl, grpL_small h128]
    rfl
  · rw [if_neg (by omega), grpL_big h128]

theorem ref9_loop (l : List Int) (n : Nat) (hn : n < 1000000000000) (h5 : ∀ x ∈ l, 0 ≤ x ∧ x < 4294967216) (hl : l.length ≤ 20) : ∀ (d k i : Nat), i + d = l.length → 2 ≤ i → d + 20 ≤ k →
    PRef9.pyxref09_Content.l0 k l (grpL n 0 ++ ((l.drop 2).take (i - 2)).flatMap fun n => grpL n.toNat 0) (i : Int) = some (grpL n 0 ++ (l.drop 2).flatMap fun n => grpL n.toNat 0) := by
  intro d
  induction d with
  | zero =>
    intro k i h1 h2 h3
    obtain ⟨k, rfl⟩ : ∃ m, k = m + 1 := ⟨k - 1, by omega⟩
    rw [PRef9.pyxref09_Content.l0, if_neg (by omega), List.take_of_length_le (by simp; omega)]
  | succ d ih =>
    intro k i h1 h2 h3
    obtain ⟨k, rfl⟩ : ∃ m, k = m + 1 := ⟨k - 1, by omega⟩
    have hlt : i < l.length := by omega
    have hrd : rd l (i : Int) = l[i] := by simp [rd, List.getD, hlt]
    obtain ⟨p0, p1⟩ := h5 l[i] (List.getElem_mem hlt)
    rw [PRef9.pyxref09_Content.l0, if_pos (by omega), if_pos (by omega), hrd, i64_in _ (by omega) (by omega), ref9_group k _ p0 (by omega) (by omega)]
    simp only [Option.bind_some]
    have hlen := content_len l n (i - 2) hn (by omega) (fun x hx => (h5 x hx).2) hl
    have hg := grpL_len l[i].toNat 0
    rw [if_pos (by omega), i64_in _ (by omega) (by omega)]
    have := ih k (i + 1) (by omega) (by omega) (by omega)
    rw [show ((i + 1 : Nat) : Int) = (i : Int) + 1 from by omega] at this
    have e2 : (l.drop 2).take (i + 1 - 2) = (l.drop 2).take (i - 2) ++ [l[i]] := by
      rw [show i + 1 - 2 = (i - 2) + 1 by omega, List.take_succ_eq_append_getElem (by simp; omega)]
      simp [show 2 + (i - 2) = i by omega]
    rw [e2, List.flatMap_append, ← List.append_assoc] at this
    simpa using this

theorem ref9_content (l : List Int) (k : Nat) (hk : 60 ≤ k) (hp : ∀ x ∈ l, 0 ≤ x) : PRef9.pyxref09_Content.f k l = some (if validB l = true then contentL l else []) := by
  unfold PRef9.pyxref09_Content.f
  rw [ref9_valid l k (by omega)]
  simp only [Option.bind_some]
  by_cases hv : validB l = true
  · rw [if_pos hv, if_pos hv]
    obtain ⟨h1, h2, h3, h4, h5⟩ := valid_parts hv
    have q : ∀ j (hj : j < l.length), rd l (j : Int) = l.getD j 0 := by intro j hj; simp [rd]
    have hm : ∀ j, j < l.length → l.getD j 0 ∈ l := by intro j hj; rw [List.getD_eq_getElem?_getD, List.getElem?_eq_getElem hj]; exact List.getElem_mem _
    have a0 := hp _ (hm 0 (by omega))
    have b0 := hp _ (hm 1 (by omega))
    have b9 := h5 _ (hm 1 (by omega))
    have q0 := q 0 (by omega)
    have q1 := q 1 (by omega)
    rw [show ((0 : Nat) : Int) = 0 from rfl] at q0
    rw [show ((1 : Nat) : Int) = 1 from rfl] at q1
    rw [if_pos (by omega), if_pos (by omega), q0, q1]
    rw [i64_in (l.getD 0 0) (by omega) (by omega), i64_in (l.getD 1 0) (by omega) (by omega), i64_in (40 * l.getD 0 0) (by omega) (by omega), i64_in _ (by omega) (by omega)]
    rw [ref9_group k _ (by omega) (by omega) (by omega)]
    simp only [Option.bind_some]
    have := ref9_loop l (40 * l.getD 0 0 + l.getD 1 0).toNat (by omega) (fun x hx => ⟨hp x hx, h5 x hx⟩) h2 (l.length - 2) k 2 (by omega) (by omega) (by omega)
    rw [show ((2 : Nat) : Int) = 2 from rfl] at this
    simp only [Nat.sub_self, List.take_zero, List.flatMap_nil, List.append_nil] at this
    rw [this, show (40 * l.getD 0 0 + l.getD 1 0).toNat = 40 * (l.getD 0 0).toNat + (l.getD 1 0).toNat by omega]
    rfl
  · rw [if_neg hv, if_neg hv]

def pyxref09_Content.f (l0 : List Int) : Option (List Int) := oid_Content.f l0
theorem pyxref09_Content.calls (A0 : Option Addr) (c0 : Nat) (l0 : List Int) (r : List Int) (w : World) (hr0 : Kd.C (Kd.int .u32) w A0 l0.length l0) (hc0 : l0.length ≤ c0) (h : pyxref09_Content.f l0 = some r) :
    Calls Tryd.prog 42 #[.slice A0 l0.length c0] w fun e w' => ∃ v0_ : Value, e = .returned (v0_) ∧ Kd.R (Kd.int .u8) 5 w' w.heap.size (fun _ => True) v0_ r ∧ Below w.heap.size w w' := by
  unfold pyxref09_Content.f oid_Content.f at h
  by_cases hp : (l0.all fun x => decide (0 ≤ x)) = true
  · rw [if_pos hp] at h
    exact PRef9.pyxref09_Content.calls 60 A0 c0 l0 r w hr0 hc0 ((ref9_content l0 60 (by omega) (fun x hx => by simpa using List.all_eq_true.1 hp x hx)).trans h)
  · rw [if_neg hp] at h
    cases h

end Go.Proofs.YtjoncjnmhhimhaaDoor.Hand
