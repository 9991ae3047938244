/- Plain facts on object identifiers: what the text of an identifier is, which strings are texts, and that reading a text is unique. No program in sight. -/
import Derived.Lib.ItoaNum
import Derived.Lib.Join
import Derived.Lib.SplitLaws
import Derived.Lib.ParseIntB
namespace Go.Proofs.YtjoncjnmhhimhaaDoor.Oid
set_option linter.unusedVariables false
set_option linter.unusedSimpArgs false
open Go.Lib

/-- A list is an identifier. -/
def validB (l : List Int) : Bool :=
  decide (2 ≤ l.length) && decide (l.length ≤ 20) && decide (l.getD 0 0 ≤ 2) && (decide (2 ≤ l.getD 0 0) || decide (l.getD 1 0 < 40)) && l.all (fun n => decide (n < 4294967216))
/-- The text of a list. -/
def textL (l : List Int) : List UInt8 := Lib.join (l.map fun n => decDigits n.toNat) [46]
def textB (l : List Int) : ByteArray := if validB l then ⟨(textL l).toArray⟩ else ⟨#[]⟩
/-- The words of a text. -/
def wordsB (s : ByteArray) : List ByteArray := splitB ⟨#[46]⟩ 0 (countB s ⟨#[46]⟩) s
/-- The program's loop over the words. -/
def parseLoop : List ByteArray → List Int → Option (List Int)
  | [], out => some out
  | w :: ws, out =>
    match parseUintB 32 w.data.toList with
    | .ok u => if 20 < out.length then none else parseLoop ws (out ++ [(u : Int)])
    | _ => none
def parseB (s : ByteArray) : List Int × Bool :=
  match parseLoop (wordsB s) [] with
  | some out => if textB out = s ∧ validB out = true then (out, true) else ([], false)
  | none => ([], false)

/-! ### Decimal numbers -/
def isDig (c : UInt8) : Bool := decide (48 ≤ c.toNat) && decide (c.toNat ≤ 57)
def valL (acc : Nat) (l : List UInt8) : Nat := l.foldl (fun a c => a * 10 + (c.toNat - 48)) acc
theorem valL_nil (acc : Nat) : valL acc [] = acc := by rw [valL, List.foldl_nil]
theorem valL_cons (acc : Nat) (c : UInt8) (r : List UInt8) : valL acc (c :: r) = valL (acc * 10 + (c.toNat - 48)) r := by rw [valL, List.foldl_cons, valL]
theorem valL_append (a : List UInt8) : ∀ (acc : Nat) (b : List UInt8), valL acc (a ++ b) = valL (valL acc a) b := by
  induction a with
  | nil => intro acc b; rw [List.nil_append, valL_nil]
  | cons c r ih => intro acc b; rw [List.cons_append, valL_cons, valL_cons]; exact ih _ b
theorem valL_ge (l : List UInt8) : ∀ acc, acc ≤ valL acc l := by
  induction l with
  | nil => intro acc; rw [valL_nil]; exact Nat.le_refl _
  | cons c r ih => intro acc; rw [valL_cons]; exact Nat.le_trans (by omega) (ih (acc * 10 + (c.toNat - 48)))
theorem valL_mono (l : List UInt8) : ∀ a b, a ≤ b → valL a l ≤ valL b l := by
  induction l with
  | nil => intro a b h; rw [valL_nil, valL_nil]; exact h
  | cons c r ih => intro a b h; rw [valL_cons, valL_cons]; exact ih _ _ (by omega)
theorem u8 (n : Nat) (h : n < 256) : (UInt8.ofNat n).toNat = n := by
  have := UInt8.toNat_ofNat' (n := n)
  rw [this]; exact Nat.mod_eq_of_lt h
/-- A number as its digits: not empty, no zero ahead. -/
def Canon (w : List UInt8) : Prop := w ≠ [] ∧ (∀ c ∈ w, isDig c = true) ∧ (w.head? = some 48 → w.length = 1)
theorem dec_canon (n : Nat) : Canon (decDigits n) ∧ valL 0 (decDigits n) = n := by
  induction n using Nat.strongRecOn with
  | _ n ih =>
    by_cases h : n < 10
    · rw [decDigits, dif_pos h]
      refine ⟨⟨by simp, ?_, by simp⟩, ?_⟩
      · intro c hc
        simp only [List.mem_singleton] at hc
        subst hc
        have e : (UInt8.ofNat (48 + n)).toNat = 48 + n := u8 _ (by omega)
        simp only [isDig, e]; simp; omega
      · have e : (UInt8.ofNat (48 + n)).toNat = 48 + n := u8 _ (by omega)
        rw [valL_cons, valL_nil, e]; omega
    · rw [decDigits, dif_neg h]
      obtain ⟨⟨h1, h2, h3⟩, h4⟩ := ih (n / 10) (by omega)
      have e : (UInt8.ofNat (48 + n % 10)).toNat = 48 + n % 10 := u8 _ (by omega)
      refine ⟨⟨by simp, ?_, ?_⟩, ?_⟩
      · intro c hc
        rcases List.mem_append.1 hc with hc | hc
        · exact h2 c hc
        · simp only [List.mem_singleton] at hc
          subst hc
          simp only [isDig, e]; simp; omega
      · intro hh
        exfalso
        obtain ⟨x, r, hx⟩ : ∃ x r, decDigits (n / 10) = x :: r := by
          cases hd : decDigits (n / 10) with
          | nil => exact absurd hd h1
          | cons x r => exact ⟨x, r, rfl⟩
        rw [hx] at hh h3 h4
        simp only [List.cons_append, List.head?_cons, Option.some.injEq] at hh
        subst hh
        have hl := h3 rfl
        simp only [List.length_cons] at hl
        have : r = [] := List.eq_nil_of_length_eq_zero (by omega)
        subst this
        rw [valL_cons, valL_nil, show (48 : UInt8).toNat = 48 from rfl] at h4
        omega
      · rw [valL_append, h4]
        rw [valL_cons, valL_nil, e]
        omega
theorem canon_dec (w : List UInt8) (h : Canon w) : decDigits (valL 0 w) = w := by
  obtain ⟨h1, h2, h3⟩ := h
  induction hn : w.length using Nat.strongRecOn generalizing w with
  | _ n ih =>
    obtain ⟨v, c, rfl⟩ : ∃ v c, w = v ++ [c] := ⟨w.dropLast, w.getLast h1, (List.dropLast_concat_getLast h1).symm⟩
    have hc := h2 c (by simp)
    simp only [isDig, Bool.and_eq_true, decide_eq_true_eq] at hc
    have hcb : UInt8.ofNat (48 + (c.toNat - 48)) = c := by
      rw [show 48 + (c.toNat - 48) = c.toNat from by omega]; simp
    by_cases hv : v = []
    · subst hv
      rw [List.nil_append, valL_cons, valL_nil]
      rw [decDigits, dif_pos (by omega)]
      rw [show 48 + (0 * 10 + (c.toNat - 48)) = 48 + (c.toNat - 48) from by omega, hcb]
    · have hlen : 0 < v.length := List.length_pos_iff.2 hv
      obtain ⟨x, r, rfl⟩ : ∃ x r, v = x :: r := by
        cases v with
        | nil => exact absurd rfl hv
        | cons x r => exact ⟨x, r, rfl⟩
      have hx : x ≠ 48 := by
        intro e
        subst e
        have := h3 (by simp)
        simp at this
      have hxd := h2 x (by simp)
      simp only [isDig, Bool.and_eq_true, decide_eq_true_eq] at hxd
      have hx1 : 49 ≤ x.toNat := by
        rcases Nat.lt_or_ge x.toNat 49 with hl | hl
        · exfalso
          apply hx
          have : x.toNat = 48 := by omega
          exact UInt8.toNat_inj.1 this
        · exact hl
      have hv1 : 1 ≤ valL 0 (x :: r) := by
        have := valL_ge r (0 * 10 + (x.toNat - 48))
        rw [valL_cons]
        omega
      have hih := ih (x :: r).length (by rw [← hn]; simp) (x :: r) (by simp) (fun d hd => h2 d (by simp only [List.mem_append]; exact .inl hd)) (by simp [hx]) rfl
      rw [valL_cons] at hih hv1
      rw [valL_append, valL_cons, valL_cons, valL_nil]
      rw [decDigits, dif_neg (by omega)]
      rw [show (valL (0 * 10 + (x.toNat - 48)) r * 10 + (c.toNat - 48)) / 10 = valL (0 * 10 + (x.toNat - 48)) r from by omega, hih,
        show (valL (0 * 10 + (x.toNat - 48)) r * 10 + (c.toNat - 48)) % 10 = c.toNat - 48 from by omega, hcb]

theorem parseUintM_ok (M : Nat) (w : List UInt8) : ∀ acc u, parseUintM M acc w = .ok u → (∀ c ∈ w, isDig c = true) ∧ valL acc w = u ∧ (acc ≤ M → u ≤ M) := by
  induction w with
  | nil => intro acc u h; simp only [parseUintM] at h; injection h with h; subst h; exact ⟨by simp, by rw [valL_nil], fun h => h⟩
  | cons c r ih =>
    intro acc u h
    simp only [parseUintM] at h
    split at h
    · rename_i hd
      split at h
      · cases h
      · split at h
        · cases h
        · rename_i h1 h2
          obtain ⟨h3, h4, h5⟩ := ih _ _ h
          refine ⟨?_, by rw [valL_cons]; exact h4, fun _ => h5 (by omega)⟩
          intro x hx
          rcases List.mem_cons.1 hx with rfl | hx
          · simp [isDig, hd]
          · exact h3 x hx
    · cases h
theorem parseUintM_of (M : Nat) (hM : M < 18446744073709551616) (w : List UInt8) : ∀ acc, (∀ c ∈ w, isDig c = true) → valL acc w ≤ M → parseUintM M acc w = .ok (valL acc w) := by
  induction w with
  | nil => intro acc _ _; rw [valL_nil]; rfl
  | cons c r ih =>
    intro acc hd hm
    have hc := hd c (by simp)
    simp only [isDig, Bool.and_eq_true, decide_eq_true_eq] at hc
    have hg := valL_ge r (acc * 10 + (c.toNat - 48))
    rw [valL_cons] at hm
    simp only [parseUintM]
    rw [if_pos hc, if_neg (by omega), if_neg (by omega), ih _ (fun x hx => hd x (by simp [hx])) hm, valL_cons]

/-! ### Texts -/
theorem join_nil : Lib.join [] [46] = [] := rfl
theorem join_one (w : List UInt8) : Lib.join [w] [46] = w := by simp [Lib.join]
theorem join_cons (w v : List UInt8) (ws : List (List UInt8)) : Lib.join (w :: v :: ws) [46] = w ++ 46 :: Lib.join (v :: ws) [46] := by
  simp [Lib.join, List.intercalate]

/-- The words of a list of bytes, dots between them: 'cur' is what the word that is read begins with. -/
def splitL (cur : List UInt8) : List UInt8 → List (List UInt8)
  | [] => [cur]
  | c :: r => if c = 46 then cur :: splitL [] r else splitL (cur ++ [c]) r
theorem splitL_ne (r : List UInt8) : ∀ cur, splitL cur r ≠ [] := by
  induction r with
  | nil => intro cur; simp [splitL]
  | cons c r ih => intro cur; simp only [splitL]; split <;> simp [ih]
theorem join_splitL (r : List UInt8) : ∀ cur, Lib.join (splitL cur r) [46] = cur ++ r := by
  induction r with
  | nil => intro cur; simp [splitL, join_one]
  | cons c r ih =>
    intro cur
    simp only [splitL]
    split
    · rename_i h
      subst h
      cases hs : splitL [] r with
      | nil => exact absurd hs (splitL_ne r [])
      | cons v ws => rw [join_cons, ← hs, ih]; simp
    · rw [ih]; simp
theorem splitL_skip (w : List UInt8) (hw : ∀ c ∈ w, c ≠ 46) : ∀ cur r, splitL cur (w ++ r) = splitL (cur ++ w) r := by
  induction w with
  | nil => intro cur r; simp
  | cons c w ih =>
    intro cur r
    rw [List.cons_append, splitL, if_neg (hw c (by simp)), ih (fun x hx => hw x (by simp [hx]))]
    simp
theorem splitL_join (ws : List (List UInt8)) (h0 : ws ≠ []) (h : ∀ w ∈ ws, ∀ c ∈ w, c ≠ (46 : UInt8)) : splitL [] (Lib.join ws [46]) = ws := by
  induction ws with
  | nil => exact absurd rfl h0
  | cons w ws ih =>
    cases ws with
    | nil =>
      rw [join_one]
      have := splitL_skip w (h w (by simp)) [] []
      rw [List.append_nil] at this
      rw [this]
      simp [splitL]
    | cons v ws =>
      rw [join_cons, splitL_skip w (h w (by simp))]
      simp only [splitL, if_true, List.nil_append]
      rw [ih (by simp) (fun x hx => h x (by simp only [List.mem_cons] at hx ⊢; exact .inr hx))]

end Go.Proofs.YtjoncjnmhhimhaaDoor.Oid
