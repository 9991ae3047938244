/- Which strings parse: the program's loop and the reference's loop over the words accept the same strings, with the same numbers. No program in sight. -/
import Derived.Test.YtjoncjnmhhimhaaDoorOidPlain
namespace Go.Proofs.YtjoncjnmhhimhaaDoor.Oid
set_option linter.unusedVariables false
set_option linter.unusedSimpArgs false
open Go.Lib

theorem valid_iff (l : List Int) : validB l = true ↔ (2 ≤ l.length ∧ l.length ≤ 20 ∧ l.getD 0 0 ≤ 2 ∧ (2 ≤ l.getD 0 0 ∨ l.getD 1 0 < 40) ∧ ∀ n ∈ l, n < 4294967216) := by
  unfold validB
  simp only [Bool.and_eq_true, Bool.or_eq_true, decide_eq_true_eq, List.all_eq_true]
  constructor
  · intro h; exact ⟨h.1.1.1.1, h.1.1.1.2, h.1.1.2, h.1.2, h.2⟩
  · intro h; exact ⟨⟨⟨⟨h.1, h.2.1⟩, h.2.2.1⟩, h.2.2.2.1⟩, h.2.2.2.2⟩

theorem nDigits_le : ∀ (k n : Nat), 1 ≤ k → n < 10 ^ k → nDigits n ≤ k
  | 0, _, h, _ => absurd h (by omega)
  | k + 1, n, _, h => by
    by_cases h10 : n < 10
    · rw [nDigits_small h10]; omega
    · rw [nDigits_big h10]
      have hk : 1 ≤ k := by
        rcases Nat.eq_zero_or_pos k with rfl | hk
        · simp at h; omega
        · exact hk
      have := nDigits_le k (n / 10) hk (by rw [Nat.pow_succ] at h; omega)
      omega

/-- What the reference reads in a word: its number, or -1. -/
def numR (w : List UInt8) : Int :=
  if w ≠ [] ∧ (∀ c ∈ w, isDig c = true) ∧ (w.head? = some 48 → w.length = 1) ∧ w.length ≤ 10 ∧ valL 0 w ≤ 4294967295 then (valL 0 w : Int) else -1
def refLoop : List (List UInt8) → List Int → Option (List Int)
  | [], out => some out
  | w :: ws, out => if numR w < 0 then none else refLoop ws (out ++ [numR w])
def refParse (s : List UInt8) : List Int × Bool :=
  match refLoop (splitL [] s) [] with
  | some out => if validB out = true then (out, true) else ([], false)
  | none => ([], false)

/-- A text and its numbers. -/
def Good (s : List UInt8) (l : List Int) : Prop := validB l = true ∧ (∀ x ∈ l, 0 ≤ x) ∧ s = textL l

theorem dec_no46 (n : Nat) : ∀ c ∈ decDigits n, c ≠ 46 := by
  intro c hc e
  have := (dec_canon n).1.2.1 c hc
  subst e
  revert this
  decide
theorem numR_dec (n : Nat) (h : n < 4294967296) : numR (decDigits n) = n := by
  obtain ⟨⟨h1, h2, h3⟩, h4⟩ := dec_canon n
  unfold numR
  rw [if_pos ⟨h1, h2, h3, by rw [decDigits_length]; exact nDigits_le 10 n (by omega) (by omega), by rw [h4]; omega⟩, h4]
theorem dec_numR {w : List UInt8} (h : ¬ numR w < 0) : decDigits (numR w).toNat = w ∧ 0 ≤ numR w := by
  unfold numR at h ⊢
  split at h
  · rename_i hc
    rw [if_pos hc]
    refine ⟨?_, by omega⟩
    rw [Int.toNat_natCast]
    exact canon_dec w ⟨hc.1, hc.2.1, hc.2.2.1⟩
  · omega

theorem refLoop_some : ∀ (ws : List (List UInt8)) (acc out : List Int), refLoop ws acc = some out → ∃ l, out = acc ++ l ∧ (∀ x ∈ l, 0 ≤ x) ∧ (l.map fun n => decDigits n.toNat) = ws
  | [], acc, out, h => by
    simp only [refLoop, Option.some.injEq] at h
    exact ⟨[], by simp [h], by simp, rfl⟩
  | w :: ws, acc, out, h => by
    simp only [refLoop] at h
    split at h
    · cases h
    · rename_i hn
      obtain ⟨l, e, hp, hw⟩ := refLoop_some ws _ out h
      obtain ⟨e1, e2⟩ := dec_numR hn
      refine ⟨numR w :: l, by rw [e]; simp, ?_, by rw [List.map_cons, hw, e1]⟩
      intro x hx
      rcases List.mem_cons.1 hx with rfl | hx
      · exact e2
      · exact hp x hx
theorem refLoop_of : ∀ (l acc : List Int), (∀ x ∈ l, 0 ≤ x ∧ x < 4294967296) → refLoop (l.map fun n => decDigits n.toNat) acc = some (acc ++ l)
  | [], acc, _ => by simp [refLoop]
  | n :: l, acc, h => by
    obtain ⟨h0, h1⟩ := h n (by simp)
    have e : numR (decDigits n.toNat) = n := by rw [numR_dec _ (by omega)]; omega
    simp only [List.map_cons, refLoop]
    rw [e, if_neg (by omega), refLoop_of l _ (fun x hx => h x (by simp [hx]))]
    simp

theorem split_text {s : List UInt8} {l : List Int} (h : Good s l) : splitL [] s = l.map fun n => decDigits n.toNat := by
  obtain ⟨h1, _, rfl⟩ := h
  have hl := ((valid_iff l).1 h1).1
  unfold textL
  apply splitL_join
  · intro e
    have := congrArg List.length e
    simp at this
    subst this
    simp at hl
  · intro w hw
    obtain ⟨n, _, rfl⟩ := List.mem_map.1 hw
    exact dec_no46 _
theorem refParse_good {s : List UInt8} {l : List Int} (h : Good s l) : refParse s = (l, true) := by
  have hv := ((valid_iff l).1 h.1).2.2.2.2
  unfold refParse
  rw [split_text h, refLoop_of l [] (fun x hx => ⟨h.2.1 x hx, by have := hv x hx; omega⟩)]
  simp [h.1]
theorem good_refParse {s : List UInt8} {l : List Int} (h : refParse s = (l, true)) : Good s l := by
  unfold refParse at h
  cases hr : refLoop (splitL [] s) [] with
  | none => rw [hr] at h; simp at h
  | some out =>
    rw [hr] at h
    simp only at h
    by_cases hv : validB out = true
    · rw [if_pos hv] at h
      simp only [Prod.mk.injEq, and_true] at h
      subst h
      obtain ⟨l2, e, hp, hw⟩ := refLoop_some _ _ _ hr
      rw [List.nil_append] at e
      subst e
      refine ⟨hv, hp, ?_⟩
      unfold textL
      rw [hw, join_splitL]
      rfl
    · rw [if_neg hv] at h
      simp at h
theorem refParse_two (s : List UInt8) : (∃ l, refParse s = (l, true)) ∨ refParse s = ([], false) := by
  unfold refParse
  cases refLoop (splitL [] s) [] with
  | none => exact .inr rfl
  | some out =>
    simp only
    by_cases hv : validB out = true
    · rw [if_pos hv]; exact .inl ⟨_, rfl⟩
    · rw [if_neg hv]; exact .inr rfl

/-! ### The program's side -/
theorem index_one (l : List UInt8) : (index l [46] = -1 ∧ ∀ c ∈ l, c ≠ 46) ∨ ∃ a b, l = a ++ 46 :: b ∧ (∀ c ∈ a, c ≠ (46 : UInt8)) ∧ index l [46] = (a.length : Int) := by
  induction l with
  | nil => left; exact ⟨by simp [index], by simp⟩
  | cons b l ih =>
    by_cases h : b = 46
    · subst h
      right
      exact ⟨[], l, rfl, by simp, by rw [index]; simp [List.isPrefixOf]⟩
    · have hp : ([46] : List UInt8).isPrefixOf (b :: l) = false := by simp [List.isPrefixOf, Ne.symm h]
      have hix : index (b :: l) [46] = if index l [46] == -1 then -1 else index l [46] + 1 := by rw [index, hp]; simp
      rcases ih with ⟨h1, h2⟩ | ⟨x, y, rfl, h2, h3⟩
      · left
        refine ⟨by rw [hix, h1]; rfl, ?_⟩
        intro c hc
        rcases List.mem_cons.1 hc with rfl | hc
        · exact h
        · exact h2 c hc
      · right
        refine ⟨b :: x, y, by simp, ?_, ?_⟩
        · intro c hc
          rcases List.mem_cons.1 hc with rfl | hc
          · exact h
          · exact h2 c hc
        · rw [hix, h3, if_neg (by simp)]
          simp
theorem splitL_none {l : List UInt8} (h : ∀ c ∈ l, c ≠ 46) : splitL [] l = [l] := by
  have := splitL_skip l h [] []
  rw [List.append_nil] at this
  rw [this]
  simp [splitL]
theorem words_split : ∀ (k : Nat) (s : ByteArray), countB s ⟨#[46]⟩ = k → (splitB ⟨#[46]⟩ 0 k s).map (·.data.toList) = splitL [] s.data.toList
  | 0, s, hk => by
    rcases index_one s.data.toList with ⟨h1, h2⟩ | ⟨a, b, h1, h2, h3⟩
    · rw [splitB_zero, splitL_none h2]; rfl
    · have := countB_hit s ⟨#[46]⟩ a.length (by decide) h3
      omega
  | k + 1, s, hk => by
    rcases index_one s.data.toList with ⟨h1, h2⟩ | ⟨a, b, h1, h2, h3⟩
    · rw [countB_miss s _ h1] at hk
      omega
    · have hc := countB_hit s ⟨#[46]⟩ a.length (by decide) h3
      have hsz : s.size = s.data.toList.length := by show s.data.size = _; exact Array.length_toList.symm
      have hlen : s.size = a.length + 1 + b.length := by rw [hsz, h1]; simp; omega
      rw [splitB_hit _ 0 k s a.length h3, List.map_cons, words_split k _ (by omega)]
      have e1 : (s.extract 0 (a.length + 0)).data.toList = a := by
        rw [ByteArray.data_extract, Array.toList_extract, h1]
        simp
      have e2 : (s.extract (a.length + (⟨#[46]⟩ : ByteArray).size) s.size).data.toList = b := by
        rw [ByteArray.data_extract, Array.toList_extract, h1, hlen, show (⟨#[46]⟩ : ByteArray).size = 1 from rfl]
        rw [List.extract_eq_take_drop, show a ++ 46 :: b = (a ++ [46]) ++ b by simp, List.drop_left' (by simp)]
        exact List.take_of_length_le (by omega)
      rw [e1, e2, h1, splitL_skip a h2]
      simp [splitL]

theorem parseLoop_some : ∀ (ws : List ByteArray) (acc out : List Int), (∀ x ∈ acc, 0 ≤ x) → parseLoop ws acc = some out → ∀ x ∈ out, 0 ≤ x
  | [], acc, out, hp, h => by
    simp only [parseLoop, Option.some.injEq] at h
    subst h; exact hp
  | w :: ws, acc, out, hp, h => by
    simp only [parseLoop] at h
    split at h
    · split at h
      · cases h
      · exact parseLoop_some ws _ out (fun x hx => by
          rcases List.mem_append.1 hx with hx | hx
          · exact hp x hx
          · simp only [List.mem_singleton] at hx; omega) h
    · cases h
theorem parseUintB_dec (n : Nat) (h : n < 4294967296) : parseUintB 32 (decDigits n) = .ok n := by
  obtain ⟨⟨h1, h2, _⟩, h4⟩ := dec_canon n
  unfold parseUintB
  rw [if_neg h1, parseUintM_of (2 ^ 32 - 1) (by omega) _ 0 h2 (by rw [h4]; omega), h4]
theorem parseLoop_of : ∀ (ws : List ByteArray) (l acc : List Int), ws.map (·.data.toList) = (l.map fun n => decDigits n.toNat) → (∀ x ∈ l, 0 ≤ x ∧ x < 4294967296) → acc.length + l.length ≤ 20 → parseLoop ws acc = some (acc ++ l)
  | [], l, acc, hw, _, _ => by
    have : l = [] := by
      cases l with
      | nil => rfl
      | cons n l => simp at hw
    subst this
    simp [parseLoop]
  | w :: ws, l, acc, hw, hp, hl => by
    cases l with
    | nil => simp at hw
    | cons n l =>
      simp only [List.map_cons, List.cons.injEq] at hw
      obtain ⟨h0, h1⟩ := hp n (by simp)
      simp only [parseLoop]
      rw [hw.1, parseUintB_dec _ (by omega)]
      simp only
      simp only [List.length_cons] at hl
      rw [if_neg (by omega), parseLoop_of ws l _ hw.2 (fun x hx => hp x (by simp [hx])) (by simp; omega), show ((n.toNat : Nat) : Int) = n by omega]
      simp
theorem parseB_good {s : ByteArray} {l : List Int} (h : Good s.data.toList l) : parseB s = (l, true) := by
  obtain ⟨hv, hp, hs⟩ := h
  have hv5 := (valid_iff l).1 hv
  unfold parseB wordsB
  rw [parseLoop_of _ l [] (by rw [words_split _ s rfl]; exact split_text ⟨hv, hp, hs⟩) (fun x hx => ⟨hp x hx, by have := hv5.2.2.2.2 x hx; omega⟩) (by simp; omega)]
  simp only [List.nil_append]
  have ht : textB l = s := by
    unfold textB
    rw [if_pos hv, ← hs]
  rw [if_pos ⟨ht, hv⟩]
theorem good_parseB {s : ByteArray} {l : List Int} (h : parseB s = (l, true)) : Good s.data.toList l := by
  unfold parseB at h
  cases hr : parseLoop (wordsB s) [] with
  | none => rw [hr] at h; simp at h
  | some out =>
    rw [hr] at h
    simp only at h
    by_cases hc : textB out = s ∧ validB out = true
    · rw [if_pos hc] at h
      simp only [Prod.mk.injEq, and_true] at h
      subst h
      refine ⟨hc.2, parseLoop_some _ [] _ (by simp) hr, ?_⟩
      rw [← hc.1]
      unfold textB
      rw [if_pos hc.2]
    · rw [if_neg hc] at h
      simp at h
theorem parseB_two (s : ByteArray) : (∃ l, parseB s = (l, true)) ∨ parseB s = ([], false) := by
  unfold parseB
  cases parseLoop (wordsB s) [] with
  | none => exact .inr rfl
  | some out =>
    simp only
    by_cases hc : textB out = s ∧ validB out = true
    · rw [if_pos hc]; exact .inl ⟨_, rfl⟩
    · rw [if_neg hc]; exact .inr rfl

/-- THE TWO PARSERS AGREE. -/
theorem parse_eq (s : ByteArray) : parseB s = refParse s.data.toList := by
  rcases parseB_two s with ⟨l, h⟩ | h
  · rw [h, refParse_good (good_parseB h)]
  · rcases refParse_two s.data.toList with ⟨l, h2⟩ | h2
    · rw [parseB_good (good_refParse h2)] at h
      simp at h
    · rw [h, h2]

end Go.Proofs.YtjoncjnmhhimhaaDoor.Oid
