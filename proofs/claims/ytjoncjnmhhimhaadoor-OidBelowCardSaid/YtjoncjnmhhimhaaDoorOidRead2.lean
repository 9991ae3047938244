/- Which bytes are a content: the program's loop and the reference's loop over the bytes accept the same ones, with the same numbers. No program in sight. -/
import Derived.Test.YtjoncjnmhhimhaaDoorOidSpec
import Derived.Test.YtjoncjnmhhimhaaDoorOidContent
import Derived.Test.YtjoncjnmhhimhaaDoorOidPlain2
namespace Go.Proofs.YtjoncjnmhhimhaaDoor.Oid
set_option linter.unusedVariables false
set_option linter.unusedSimpArgs false
open Go.Lib Go.Proofs.YtjoncjnmhhimhaaDoor.Hand

theorem readLoop_grp (m : Nat) : ∀ (h1 : 1 ≤ m) (h2 : m < 4294967296) (r out : List Int) (ho : out.length ≤ 20), readLoop (grpL m 128 ++ r) out 0 false = readLoop r out (m : Int) true := by
  induction m using Nat.strongRecOn with
  | _ m ih =>
    intro h1 h2 r out ho
    by_cases h : m < 128
    · rw [grpL_small h, List.singleton_append, readLoop, if_neg (by omega), if_neg (by omega), if_pos (by omega)]
      congr 1
      omega
    · rw [grpL_big h, List.append_assoc, ih (m / 128) (by omega) (by omega) (by omega) _ out ho, List.singleton_append, readLoop, if_neg (by simp; omega), if_neg (by omega), if_pos (by omega)]
      congr 1
      omega
/-- What a number more makes of the list. -/
def addN (out : List Int) (n : Int) : List Int := if out = [] then [min (n / 40) 2, n - 40 * min (n / 40) 2] else out ++ [n]
theorem readLoop_num (n : Nat) (h2 : n < 4294967296) (r out : List Int) (ho : out.length ≤ 20) : readLoop (grpL n 0 ++ r) out 0 false = readLoop r (addN out n) 0 false := by
  unfold addN
  by_cases h : n < 128
  · rw [grpL_small h, List.singleton_append, readLoop, if_neg (by omega), if_neg (by omega), if_neg (by omega), if_neg (by omega)]
    rw [show (0 : Int) * 128 + ((n % 128 + 0 : Nat) : Int) % 128 = (n : Int) by omega]
    split <;> rfl
  · rw [grpL_big h, List.append_assoc, readLoop_grp (n / 128) (by omega) (by omega) _ out ho, List.singleton_append, readLoop, if_neg (by simp; omega), if_neg (by omega), if_neg (by omega), if_neg (by omega)]
    rw [show ((n / 128 : Nat) : Int) * 128 + ((n % 128 + 0 : Nat) : Int) % 128 = (n : Int) by omega]
    split <;> rfl
theorem readLoop_nums : ∀ (l out : List Int), out ≠ [] → (∀ x ∈ l, 0 ≤ x ∧ x < 4294967296) → out.length + l.length ≤ 20 → readLoop (l.flatMap fun n => grpL n.toNat 0) out 0 false = some (out ++ l, false)
  | [], out, _, _, _ => by simp [readLoop]
  | x :: l, out, hne, h, hl => by
    obtain ⟨h0, h1⟩ := h x (by simp)
    simp only [List.length_cons] at hl
    rw [List.flatMap_cons, readLoop_num x.toNat (by omega) _ out (by omega), show addN out (x.toNat : Int) = out ++ [x] by unfold addN; rw [if_neg hne, show ((x.toNat : Nat) : Int) = x by omega]]
    rw [readLoop_nums l (out ++ [x]) (by simp) (fun y hy => h y (by simp [hy])) (by simp; omega)]
    simp
theorem addN_first (a b : Int) (h0 : 0 ≤ a) (h1 : 0 ≤ b) (h2 : a ≤ 2) (h3 : 2 ≤ a ∨ b < 40) : addN [] (40 * a + b) = [a, b] := by
  unfold addN
  rw [if_pos rfl]
  have : min ((40 * a + b) / 40) 2 = a := by omega
  rw [this]
  congr 2
  omega
theorem two_of {l : List Int} (h : 2 ≤ l.length) : l = [l.getD 0 0, l.getD 1 0] ++ l.drop 2 := by
  match l, h with
  | a :: b :: l, _ => simp
theorem valid_nums {l : List Int} (h : validB l = true) (hp : ∀ x ∈ l, 0 ≤ x) : 2 ≤ l.length ∧ l.length ≤ 20 ∧ 0 ≤ l.getD 0 0 ∧ l.getD 0 0 ≤ 2 ∧ 0 ≤ l.getD 1 0 ∧ l.getD 1 0 < 4294967216 ∧ (2 ≤ l.getD 0 0 ∨ l.getD 1 0 < 40) ∧ (∀ x ∈ l.drop 2, 0 ≤ x ∧ x < 4294967296) := by
  obtain ⟨h1, h2, h3, h4, h5⟩ := (valid_iff l).1 h
  have hm : ∀ j, j < l.length → l.getD j 0 ∈ l := by intro j hj; rw [List.getD_eq_getElem?_getD, List.getElem?_eq_getElem hj]; exact List.getElem_mem _
  refine ⟨h1, h2, hp _ (hm 0 (by omega)), h3, hp _ (hm 1 (by omega)), h5 _ (hm 1 (by omega)), h4, ?_⟩
  intro x hx
  have := List.mem_of_mem_drop hx
  have := h5 x this
  exact ⟨hp x (List.mem_of_mem_drop hx), by omega⟩
/-- The program reads a content back. -/
theorem readL_content {l : List Int} (h : validB l = true) (hp : ∀ x ∈ l, 0 ≤ x) : readL (contentL l) = (l, true) := by
  obtain ⟨h1, h2, a0, a2, b0, b9, hab, hd⟩ := valid_nums h hp
  have e : readLoop (contentL l) [] 0 false = some (l, false) := by
    unfold contentL
    rw [readLoop_num _ (by omega) _ [] (by simp)]
    have := addN_first (l.getD 0 0) (l.getD 1 0) a0 b0 a2 hab
    rw [show ((40 * (l.getD 0 0).toNat + (l.getD 1 0).toNat : Nat) : Int) = 40 * l.getD 0 0 + l.getD 1 0 by omega, this]
    rw [readLoop_nums (l.drop 2) _ (by simp) hd (by simp; omega), ← two_of h1]
  unfold readL
  rw [e]
  simp only
  rw [if_pos h]

/-- The bytes of the numbers that are read. -/
def bytesOf (out : List Int) : List Int := if out = [] then [] else contentL out
theorem bytes_add (out : List Int) (n : Nat) (h : out = [] ∨ 2 ≤ out.length) : bytesOf (addN out n) = bytesOf out ++ grpL n 0 := by
  unfold addN bytesOf
  rcases h with rfl | h
  · simp only [if_true, List.nil_append]
    rw [if_neg (by simp)]
    unfold contentL
    have e : 40 * (min ((n : Int) / 40) 2).toNat + ((n : Int) - 40 * min ((n : Int) / 40) 2).toNat = n := by omega
    simp only [List.getD_cons_zero, List.getD_cons_succ, List.drop_succ_cons, List.drop_zero, List.flatMap_nil, List.append_nil]
    rw [e]
  · have hne : out ≠ [] := by intro e; rw [e] at h; simp at h
    rw [if_neg hne, if_neg hne, if_neg (by simp)]
    unfold contentL
    match out, h with
    | a :: b :: l, _ => simp
theorem add_ok {out : List Int} {n : Int} (h0 : 0 ≤ n) (hp : ∀ x ∈ out, 0 ≤ x) (h : out = [] ∨ 2 ≤ out.length) : (∀ x ∈ addN out n, 0 ≤ x) ∧ (addN out n = [] ∨ 2 ≤ (addN out n).length) := by
  unfold addN
  split
  · refine ⟨?_, .inr (by simp)⟩
    intro x hx
    simp only [List.mem_cons, List.not_mem_nil, or_false] at hx
    omega
  · rename_i hne
    refine ⟨?_, .inr (by rcases h with h | h; exact absurd h hne; simp; omega)⟩
    intro x hx
    rcases List.mem_append.1 hx with hx | hx
    · exact hp x hx
    · simp only [List.mem_singleton] at hx; omega
/-- What the program reads has these bytes. -/
theorem readLoop_bytes : ∀ (b out : List Int) (n : Nat) (op : Bool) (l : List Int), (∀ c ∈ b, 0 ≤ c ∧ c < 256) → (op = false → n = 0) → (op = true → 1 ≤ n) → (∀ x ∈ out, 0 ≤ x) → (out = [] ∨ 2 ≤ out.length) →
    readLoop b out (n : Int) op = some (l, false) → bytesOf out ++ (if op = true then grpL n 128 else []) ++ b = bytesOf l ∧ ∀ x ∈ l, 0 ≤ x
  | [], out, n, op, l, _, h1, h2, hp, hz, h => by
    simp only [readLoop, Option.some.injEq, Prod.mk.injEq] at h
    obtain ⟨rfl, rfl⟩ := h
    exact ⟨by simp, hp⟩
  | c :: r, out, n, op, l, hb, h1, h2, hp, hz, h => by
    obtain ⟨c0, c9⟩ := hb c (by simp)
    have hbr : ∀ c ∈ r, 0 ≤ c ∧ c < 256 := fun x hx => hb x (by simp [hx])
    rw [readLoop] at h
    by_cases g1 : (op = false ∧ c = 128) ∨ 20 < out.length
    · rw [if_pos g1] at h
      simp at h
    rw [if_neg g1] at h
    by_cases g2 : 4294967296 ≤ (n : Int)
    · rw [if_pos g2] at h
      cases h
    rw [if_neg g2] at h
    by_cases g3 : 128 ≤ c
    · rw [if_pos g3, show (n : Int) * 128 + c % 128 = ((n * 128 + (c % 128).toNat : Nat) : Int) by omega] at h
      obtain ⟨i1, i2⟩ := readLoop_bytes r out _ true l hbr (by simp) (fun _ => by
        cases op with
        | false => have := h1 rfl; have : c ≠ 128 := fun e => g1 (.inl ⟨rfl, e⟩); omega
        | true => have := h2 rfl; omega) hp hz h
      refine ⟨?_, i2⟩
      rw [← i1, if_pos rfl]
      cases op with
      | false =>
        have := h1 rfl
        subst this
        rw [if_neg (by decide), grpL_small (n := 0 * 128 + (c % 128).toNat) (by omega), List.append_nil, List.append_assoc, List.singleton_append]
        congr 2
        omega
      | true =>
        have := h2 rfl
        rw [if_pos rfl, grpL_big (n := n * 128 + (c % 128).toNat) (by omega), show (n * 128 + (c % 128).toNat) / 128 = n by omega]
        simp only [List.append_assoc, List.singleton_append]
        congr 3
        omega
    · rw [if_neg g3] at h
      by_cases g4 : 4294967296 ≤ (n : Int) * 128 + c % 128
      · rw [if_pos g4] at h
        cases h
      rw [if_neg g4] at h
      have e : readLoop r (addN out ((n * 128 + c.toNat : Nat) : Int)) ((0 : Nat) : Int) false = some (l, false) := by
        rw [← h, show (n : Int) * 128 + c % 128 = ((n * 128 + c.toNat : Nat) : Int) by omega]
        unfold addN
        split <;> rfl
      obtain ⟨a1, a2⟩ := add_ok (n := ((n * 128 + c.toNat : Nat) : Int)) (by omega) hp hz
      obtain ⟨i1, i2⟩ := readLoop_bytes r _ 0 false l hbr (by simp) (by simp) a1 a2 e
      refine ⟨?_, i2⟩
      rw [← i1, bytes_add _ _ hz, if_neg (show ¬ (false = true) by decide), List.append_nil]
      cases op with
      | false =>
        have := h1 rfl
        subst this
        rw [if_neg (by decide), grpL_small (n := 0 * 128 + c.toNat) (by omega), List.append_nil, List.append_assoc, List.singleton_append]
        congr 2
        omega
      | true =>
        have := h2 rfl
        rw [if_pos rfl, grpL_big (n := n * 128 + c.toNat) (by omega), show (n * 128 + c.toNat) / 128 = n by omega]
        simp only [List.append_assoc, List.singleton_append]
        congr 3
        omega
/-- What the program reads is the content of what it returns. -/
theorem readL_some {b l : List Int} (hb : ∀ c ∈ b, 0 ≤ c ∧ c < 256) (h : readL b = (l, true)) : validB l = true ∧ (∀ x ∈ l, 0 ≤ x) ∧ contentL l = b := by
  unfold readL at h
  cases hr : readLoop b [] 0 false with
  | none => rw [hr] at h; simp at h
  | some p =>
    obtain ⟨out, op⟩ := p
    rw [hr] at h
    cases op with
    | true => simp at h
    | false =>
      simp only at h
      by_cases hv : validB out = true
      · rw [if_pos hv] at h
        simp only [Prod.mk.injEq, and_true] at h
        subst h
        obtain ⟨i1, i2⟩ := readLoop_bytes b [] 0 false out hb (by simp) (by simp) (by simp) (.inl rfl) hr
        refine ⟨hv, i2, ?_⟩
        have h2 := ((valid_iff out).1 hv).1
        have hne : out ≠ [] := by intro e; rw [e] at h2; simp at h2
        unfold bytesOf at i1
        rw [if_pos rfl, if_neg (by decide), if_neg hne] at i1
        simpa using i1.symm
      · rw [if_neg hv] at h
        simp at h
theorem readL_two (b : List Int) : (∃ l, readL b = (l, true)) ∨ readL b = ([], false) := by
  unfold readL
  split
  · split
    · exact .inl ⟨_, rfl⟩
    · exact .inr rfl
  · exact .inr rfl

/-- The reference's loop over the bytes. -/
def refRd : List Int → List Int → Int → Option (List Int)
  | [], out, _ => some out
  | c :: r, out, n =>
    if n * 128 + c % 128 > 4294967375 then none
    else if c ≥ 128 then refRd r out (n * 128 + c % 128)
    else if out ≠ [] then refRd r (out ++ [(n * 128 + c % 128) % 4294967296]) 0
    else if n * 128 + c % 128 < 40 then refRd r [0, (n * 128 + c % 128) % 4294967296] 0
    else if n * 128 + c % 128 < 80 then refRd r [1, (n * 128 + c % 128 - 40) % 4294967296] 0
    else refRd r [2, (n * 128 + c % 128 - 80) % 4294967296] 0
def refRead (b : List Int) : List Int × Bool :=
  match refRd b [] 0 with
  | some l => if validB l = true ∧ contentL l = b then (l, true) else ([], false)
  | none => ([], false)
theorem refRd_grp (m : Nat) : ∀ (h2 : m < 4294967296) (r out : List Int), refRd (grpL m 128 ++ r) out 0 = refRd r out (m : Int) := by
  induction m using Nat.strongRecOn with
  | _ m ih =>
    intro h2 r out
    by_cases h : m < 128
    · rw [grpL_small h, List.singleton_append, refRd, if_neg (by omega), if_pos (by omega)]
      congr 1
      omega
    · rw [grpL_big h, List.append_assoc, ih (m / 128) (by omega) (by omega), List.singleton_append, refRd, if_neg (by omega), if_pos (by omega)]
      congr 1
      omega
theorem refRd_num (n : Nat) (h2 : n < 4294967296) (r out : List Int) : refRd (grpL n 0 ++ r) out 0 = refRd r (addN out n) 0 := by
  have key : ∀ (m : Int) (c : Int), m * 128 + c % 128 = (n : Int) → c < 128 → refRd (c :: r) out m = refRd r (addN out n) 0 := by
    intro m c e hc
    rw [refRd, e, if_neg (by omega), if_neg (by omega)]
    unfold addN
    by_cases ho : out = []
    · rw [if_neg (by simpa using ho), if_pos ho]
      by_cases h40 : n < 40
      · rw [if_pos (by omega), show min ((n : Int) / 40) 2 = 0 by omega, show (n : Int) % 4294967296 = (n : Int) - 40 * 0 by omega]
      · rw [if_neg (by omega)]
        by_cases h80 : n < 80
        · rw [if_pos (by omega), show min ((n : Int) / 40) 2 = 1 by omega, show ((n : Int) - 40) % 4294967296 = (n : Int) - 40 * 1 by omega]
        · rw [if_neg (by omega), show min ((n : Int) / 40) 2 = 2 by omega, show ((n : Int) - 80) % 4294967296 = (n : Int) - 40 * 2 by omega]
    · rw [if_pos ho, if_neg ho, show (n : Int) % 4294967296 = (n : Int) by omega]
  by_cases h : n < 128
  · rw [grpL_small h, List.singleton_append]
    exact key 0 _ (by omega) (by omega)
  · rw [grpL_big h, List.append_assoc, refRd_grp (n / 128) (by omega), List.singleton_append]
    exact key _ _ (by omega) (by omega)
theorem refRd_nums : ∀ (l out : List Int), out ≠ [] → (∀ x ∈ l, 0 ≤ x ∧ x < 4294967296) → refRd (l.flatMap fun n => grpL n.toNat 0) out 0 = some (out ++ l)
  | [], out, _, _ => by simp [refRd]
  | x :: l, out, hne, h => by
    obtain ⟨h0, h1⟩ := h x (by simp)
    rw [List.flatMap_cons, refRd_num x.toNat (by omega) _ out, show addN out (x.toNat : Int) = out ++ [x] by unfold addN; rw [if_neg hne, show ((x.toNat : Nat) : Int) = x by omega]]
    rw [refRd_nums l (out ++ [x]) (by simp) (fun y hy => h y (by simp [hy]))]
    simp
theorem refRead_content {l : List Int} (h : validB l = true) (hp : ∀ x ∈ l, 0 ≤ x) : refRead (contentL l) = (l, true) := by
  obtain ⟨h1, h2, a0, a2, b0, b9, hab, hd⟩ := valid_nums h hp
  have e : refRd (contentL l) [] 0 = some l := by
    unfold contentL
    rw [refRd_num _ (by omega) _ []]
    have := addN_first (l.getD 0 0) (l.getD 1 0) a0 b0 a2 hab
    rw [show ((40 * (l.getD 0 0).toNat + (l.getD 1 0).toNat : Nat) : Int) = 40 * l.getD 0 0 + l.getD 1 0 by omega, this]
    rw [refRd_nums (l.drop 2) _ (by simp) hd, ← two_of h1]
  unfold refRead
  rw [e]
  simp [h]
theorem refRd_pos : ∀ (b out : List Int) (n : Int) (l : List Int), (∀ x ∈ out, 0 ≤ x) → refRd b out n = some l → ∀ x ∈ l, 0 ≤ x
  | [], out, n, l, hp, h => by
    simp only [refRd, Option.some.injEq] at h
    subst h; exact hp
  | c :: r, out, n, l, hp, h => by
    have hm : ∀ y : Int, 0 ≤ y % 4294967296 := fun y => by omega
    rw [refRd] at h
    split at h
    · cases h
    · split at h
      · exact refRd_pos r out _ l hp h
      · split at h
        · refine refRd_pos r _ _ l ?_ h
          intro x hx
          rcases List.mem_append.1 hx with hx | hx
          · exact hp x hx
          · simp only [List.mem_singleton] at hx; subst hx; exact hm _
        · split at h
          · refine refRd_pos r _ _ l ?_ h
            intro x hx
            simp only [List.mem_cons, List.not_mem_nil, or_false] at hx
            rcases hx with rfl | rfl
            · omega
            · exact hm _
          · split at h
            · refine refRd_pos r _ _ l ?_ h
              intro x hx
              simp only [List.mem_cons, List.not_mem_nil, or_false] at hx
              rcases hx with rfl | rfl
              · omega
              · exact hm _
            · refine refRd_pos r _ _ l ?_ h
              intro x hx
              simp only [List.mem_cons, List.not_mem_nil, or_false] at hx
              rcases hx with rfl | rfl
              · omega
              · exact hm _
theorem refRead_two (b : List Int) : (∃ l, refRead b = (l, true) ∧ validB l = true ∧ (∀ x ∈ l, 0 ≤ x) ∧ contentL l = b) ∨ refRead b = ([], false) := by
  unfold refRead
  cases hr : refRd b [] 0 with
  | none => exact .inr rfl
  | some l =>
    simp only
    by_cases hc : validB l = true ∧ contentL l = b
    · rw [if_pos hc]
      exact .inl ⟨l, rfl, hc.1, refRd_pos b [] 0 l (by simp) hr, hc.2⟩
    · rw [if_neg hc]
      exact .inr rfl
/-- THE TWO READERS AGREE. -/
theorem read_eq (b : List Int) (hb : ∀ c ∈ b, 0 ≤ c ∧ c < 256) : readL b = refRead b := by
  rcases refRead_two b with ⟨l, h, hv, hp, hc⟩ | h
  · rw [h, ← hc, readL_content hv hp]
  · rcases readL_two b with ⟨l, h2⟩ | h2
    · obtain ⟨hv, hp, hc⟩ := readL_some hb h2
      rw [← hc, refRead_content hv hp] at h
      simp at h
    · rw [h, h2]
theorem content_inj {l m : List Int} (hl : validB l = true) (hlp : ∀ x ∈ l, 0 ≤ x) (hm : validB m = true) (hmp : ∀ x ∈ m, 0 ≤ x) (h : contentL l = contentL m) : l = m := by
  have := readL_content hl hlp
  rw [h, readL_content hm hmp] at this
  simpa using this.symm
theorem text_inj {l m : List Int} (hl : validB l = true) (hlp : ∀ x ∈ l, 0 ≤ x) (hm : validB m = true) (hmp : ∀ x ∈ m, 0 ≤ x) (h : textL l = textL m) : l = m := by
  have := refParse_good (s := textL l) (l := l) ⟨hl, hlp, rfl⟩
  rw [h, refParse_good (s := textL m) (l := m) ⟨hm, hmp, rfl⟩] at this
  simpa using this.symm
end Go.Proofs.YtjoncjnmhhimhaaDoor.Oid
