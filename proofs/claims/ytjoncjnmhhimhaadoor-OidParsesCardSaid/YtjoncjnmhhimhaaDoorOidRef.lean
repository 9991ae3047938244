/- What the reference's functions of layer 9 compute, as plain functions: Valid, number, Parse. -/
import Derived.Test.YtjoncjnmhhimhaaDoorOidAwake
import Derived.Test.YtjoncjnmhhimhaaDoorOidPlain2
import Derived.Test.YtjoncjnmhhimhaaDoorPOidPx2
import Derived.Test.YtjoncjnmhhimhaaDoorEq
namespace Go.Proofs.YtjoncjnmhhimhaaDoor.Pure
open Go.RowKit Go.Proofs.YtjoncjnmhhimhaaDoorW.PrintWords Go.Proofs.YtjoncjnmhhimhaaDoorW.PrintLast Go.Proofs.YtjoncjnmhhimhaaDoorW.PrintMore
open Go.Proofs.YtjoncjnmhhimhaaDoor.Oid Go.Proofs.YtjoncjnmhhimhaaDoor.Hand Go.Proofs.YtjoncjnmhhimhaaDoor.POidP

theorem size_list (s : ByteArray) : s.data.toList.length = s.size := Array.length_toList
theorem bt_list (s : ByteArray) (i : Nat) (h : i < s.data.toList.length) : bt s (i : Int) = ((s.data.toList[i]).toNat : Int) := by
  unfold bt
  rw [size_list] at h
  rw [dif_pos (by simpa using h)]
  simp only [Int.toNat_natCast]
  rfl

theorem ref_valid (l : List Int) (k : Nat) (hk : 24 ≤ k) : pyxref09_Valid.f k l = some (validB l) := by
  have hloop : ∀ (d k i : Nat), i + d = l.length → l.length ≤ 20 → d < k → pyxref09_Valid.l0 k l (i : Int) = some ((l.drop i).all fun n => decide (n < 4294967216)) := by
    intro d
    induction d with
    | zero =>
      intro k i h1 _ h3
      obtain ⟨k, rfl⟩ : ∃ m, k = m + 1 := ⟨k - 1, by omega⟩
      have : l.drop i = [] := List.drop_eq_nil_of_le (by omega)
      rw [pyxref09_Valid.l0, if_neg (by omega), this]
      rfl
    | succ d ih =>
      intro k i h1 hl h3
      obtain ⟨k, rfl⟩ : ∃ m, k = m + 1 := ⟨k - 1, by omega⟩
      have hlt : i < l.length := by omega
      have hrd : rd l (i : Int) = l[i] := by simp [rd, List.getD, hlt]
      rw [pyxref09_Valid.l0, if_pos (by omega), if_pos (by omega), hrd, List.drop_eq_getElem_cons hlt, List.all_cons]
      by_cases hn : l[i] < 4294967216
      · rw [if_neg (by omega), i64_in _ (by omega) (by omega), decide_eq_true hn, Bool.true_and]
        have := ih k (i + 1) (by omega) hl (by omega)
        rw [show ((i + 1 : Nat) : Int) = (i : Int) + 1 from by omega] at this
        exact this
      · rw [if_pos (by omega), decide_eq_false hn, Bool.false_and]
  have hj : ∀ b k, 23 ≤ k → l.length ≤ 20 → pyxref09_Valid.j0 k l b = some (!b && l.all fun n => decide (n < 4294967216)) := by
    intro b k hk hl
    obtain ⟨k, rfl⟩ : ∃ m, k = m + 1 := ⟨k - 1, by omega⟩
    rw [pyxref09_Valid.j0]
    cases b with
    | true => rw [if_pos rfl]; rfl
    | false =>
      rw [if_neg (by decide)]
      have := hloop l.length k 0 (by omega) hl (by omega)
      rw [show ((0 : Nat) : Int) = 0 from rfl] at this
      rw [this]
      rfl
  have hj1 : ∀ k, 23 ≤ k → pyxref09_Valid.j0 k l true = some false := by
    intro k hk
    obtain ⟨k, rfl⟩ : ∃ m, k = m + 1 := ⟨k - 1, by omega⟩
    rw [pyxref09_Valid.j0, if_pos rfl]
  have no : ¬ (2 ≤ l.length ∧ l.length ≤ 20 ∧ l.getD 0 0 ≤ 2 ∧ (2 ≤ l.getD 0 0 ∨ l.getD 1 0 < 40) ∧ ∀ n ∈ l, n < 4294967216) → validB l = false := fun h => Bool.eq_false_iff.2 (fun e => h ((valid_iff l).1 e))
  unfold pyxref09_Valid.f
  by_cases h1 : l.length < 2
  · rw [if_pos (by omega), hj1 k (by omega), no (by omega)]
  rw [if_neg (by omega)]
  by_cases h2 : 20 < l.length
  · rw [if_pos (by omega), hj1 k (by omega), no (by omega)]
  rw [if_neg (by omega), if_pos (by omega)]
  have r0 : rd l 0 = l.getD 0 0 := rfl
  have r1 : rd l 1 = l.getD 1 0 := rfl
  rw [r0, r1]
  by_cases h3 : 2 < l.getD 0 0
  · rw [if_pos (by omega), hj1 k (by omega), no (by omega)]
  rw [if_neg (by omega)]
  have fin : (2 ≤ l.getD 0 0 ∨ l.getD 1 0 < 40) → some (l.all fun n => decide (n < 4294967216)) = some (validB l) := by
    intro h4
    unfold validB
    rw [decide_eq_true (by omega : 2 ≤ l.length), decide_eq_true (by omega : l.length ≤ 20), decide_eq_true (by omega : l.getD 0 0 ≤ 2)]
    have : (decide (2 ≤ l.getD 0 0) || decide (l.getD 1 0 < 40)) = true := by simpa using h4
    rw [this]
    simp
  by_cases h4 : l.getD 0 0 < 2
  · rw [if_pos h4, if_pos (by omega)]
    by_cases h5 : l.getD 1 0 < 40
    · rw [decide_eq_false (by omega), hj false k (by omega) (by omega)]
      exact fin (.inr h5)
    · rw [decide_eq_true (by omega), hj1 k (by omega), no (by omega)]
  · rw [if_neg h4, hj false k (by omega) (by omega)]
    exact fin (.inl (by omega))

theorem valL_lt (l : List UInt8) (h : ∀ c ∈ l, isDig c = true) : ∀ acc, valL acc l < (acc + 1) * 10 ^ l.length := by
  induction l with
  | nil => intro acc; rw [valL_nil]; simp
  | cons c r ih =>
    intro acc
    have hc := h c (by simp)
    simp only [isDig, Bool.and_eq_true, decide_eq_true_eq] at hc
    rw [valL_cons, List.length_cons, Nat.pow_succ]
    refine Nat.lt_of_lt_of_le (ih (fun x hx => h x (by simp [hx])) _) ?_
    have e : (acc + 1) * (10 ^ r.length * 10) = ((acc + 1) * 10) * 10 ^ r.length := by rw [Nat.mul_assoc (acc + 1) 10, Nat.mul_comm 10]
    rw [e]
    exact Nat.mul_le_mul_right _ (by omega)

theorem num_loop (w : ByteArray) (hw : w.size ≤ 140737488355328) : ∀ (d k i : Nat), i + d = w.size → d < k → (∀ c ∈ w.data.toList.take i, isDig c = true) → (0 < i → w.size ≤ 10 ∧ (w.data.toList.head? = some 48 → w.size = 1)) →
    pyxref09_number.l0 k w ((valL 0 (w.data.toList.take i) : Nat) : Int) (i : Int) = some (numR w.data.toList) := by
  have hsz := size_list w
  intro d
  induction d with
  | zero =>
    intro k i h1 h3 hd hx
    obtain ⟨k, rfl⟩ : ∃ m, k = m + 1 := ⟨k - 1, by omega⟩
    have et : w.data.toList.take i = w.data.toList := List.take_of_length_le (by omega)
    rw [et] at hd ⊢
    rw [pyxref09_number.l0, if_neg (by omega), Lib.toList_data]
    unfold numR
    by_cases h0 : w.data.toList = []
    · rw [if_pos h0, if_neg (fun h => h.1 h0)]
    · rw [if_neg h0]
      have hp : 0 < i := by
        have := List.length_pos_iff.2 h0
        omega
      obtain ⟨x1, x2⟩ := hx hp
      by_cases h9 : valL 0 w.data.toList ≤ 4294967295
      · rw [if_neg (by omega), if_pos ⟨h0, hd, fun h => by rw [hsz]; exact x2 h, by omega, h9⟩]
      · rw [if_pos (by omega), if_neg (fun h => h9 h.2.2.2.2)]
  | succ d ih =>
    intro k i h1 h3 hd hx
    obtain ⟨k, rfl⟩ : ∃ m, k = m + 1 := ⟨k - 1, by omega⟩
    have hlt : i < w.data.toList.length := by omega
    have hbt := bt_list w i hlt
    obtain ⟨c, ec⟩ : ∃ c, c = w.data.toList[i] := ⟨_, rfl⟩
    rw [← ec] at hbt
    have hmem : c ∈ w.data.toList := by rw [ec]; exact List.getElem_mem _
    have hc8 : c.toNat < 256 := c.toNat_lt
    have hne : w.data.toList ≠ [] := by intro e; rw [e] at hlt; simp at hlt
    rw [pyxref09_number.l0, if_pos (by omega), if_pos (by omega), hbt]
    have nodig : isDig c = false → numR w.data.toList = -1 := by
      intro h
      unfold numR
      rw [if_neg (fun hh => by have := hh.2.1 c hmem; rw [h] at this; cases this)]
    by_cases hlo : c.toNat < 48
    · rw [if_pos (by omega), nodig (by simp [isDig]; omega)]
    rw [if_neg (by omega)]
    by_cases hhi : 57 < c.toNat
    · rw [if_pos (by omega), nodig (by simp [isDig]; omega)]
    rw [if_neg (by omega)]
    have hcd : isDig c = true := by simp [isDig]; omega
    by_cases h10 : 10 < w.size
    · rw [if_pos (by omega)]
      unfold numR
      rw [if_neg (fun hh => by have := hh.2.2.2.1; omega)]
    rw [if_neg (by omega), if_pos (by omega)]
    have hb0 := bt_list w 0 (by omega)
    rw [show ((0 : Nat) : Int) = 0 from rfl] at hb0
    have hhead : w.data.toList.head? = some w.data.toList[0] := List.head?_eq_getElem? .. ▸ List.getElem?_eq_getElem (by omega)
    have next : (w.data.toList.head? = some 48 → w.size = 1) → pyxref09_number.l0 k w (wrap64 ((wrap64 ((wrap64 (10 * ((valL 0 (w.data.toList.take i) : Nat) : Int))) + (wrap64 ((c.toNat : Nat) : Int)))) - 48)) (wrap64 ((i : Int) + 1)) = some (numR w.data.toList) := by
      intro hz
      have et : w.data.toList.take (i + 1) = w.data.toList.take i ++ [c] := by rw [List.take_succ_eq_append_getElem hlt, ec]
      have hv : valL 0 (w.data.toList.take (i + 1)) = valL 0 (w.data.toList.take i) * 10 + (c.toNat - 48) := by rw [et, valL_append, valL_cons, valL_nil]
      have hbd := valL_lt (w.data.toList.take i) hd 0
      have hlen : (w.data.toList.take i).length ≤ 10 := by rw [List.length_take]; omega
      have hpw : (10 : Nat) ^ (w.data.toList.take i).length ≤ 10 ^ 10 := Nat.pow_le_pow_right (by omega) hlen
      have := ih k (i + 1) (by omega) (by omega) (by
        rw [et]
        intro x hx
        rcases List.mem_append.1 hx with hx | hx
        · exact hd x hx
        · simp only [List.mem_singleton] at hx; rw [hx]; exact hcd) (fun _ => ⟨by omega, hz⟩)
      rw [hv, show ((i + 1 : Nat) : Int) = (i : Int) + 1 from by omega] at this
      rw [i64_in (10 * _) (by omega) (by omega), i64_in ((c.toNat : Nat) : Int) (by omega) (by omega), i64_in (_ + _) (by omega) (by omega), i64_in (_ - 48) (by omega) (by omega), i64_in ((i : Int) + 1) (by omega) (by omega)]
      rw [← this]
      congr 1
      omega
    by_cases h48 : bt w 0 = 48
    · rw [if_pos h48]
      have hh : w.data.toList.head? = some 48 := by
        rw [hhead]
        congr 1
        rw [hb0] at h48
        have : (w.data.toList[0]).toNat = 48 := by omega
        exact UInt8.toNat_inj.1 this
      by_cases h1s : 1 < w.size
      · rw [if_pos (by omega)]
        unfold numR
        rw [if_neg (fun hc => by have := hc.2.2.1 hh; omega)]
      · rw [if_neg (by omega)]
        exact next (fun _ => by omega)
    · rw [if_neg h48]
      refine next (fun h => absurd ?_ h48)
      rw [hhead] at h
      rw [hb0, Option.some.inj h]
      rfl

theorem ref_number (w : ByteArray) (hw : w.size ≤ 140737488355328) (k : Nat) (hk : w.size < k) : pyxref09_number.f k w = some (numR w.data.toList) := by
  have := num_loop w hw w.size k 0 (by omega) hk (by simp) (by omega)
  rw [List.take_zero, valL_nil] at this
  exact this

theorem final_ref (k : Nat) (out : List Int) (hk : 24 ≤ k) : ((pyxref09_Valid.f k out).bind fun t142 => (if t142 = true then (some (out, true)) else (some (([] : List Int), false)))) = some (if validB out = true then (out, true) else ([], false)) := by
  rw [ref_valid out k hk]
  simp only [Option.bind_some]
  by_cases h : validB out = true
  · rw [if_pos h, if_pos h]
  · rw [if_neg h, if_neg h]

theorem parse_ref_loop (s : ByteArray) (hs : s.size ≤ 1000000) : ∀ (d k i fr : Nat) (acc : List Int), i + d = s.size → fr ≤ i → acc.length ≤ i → (∀ c ∈ (s.data.toList.drop fr).take (i - fr), c ≠ 46) → 2 * d + s.size + 40 ≤ k →
    pyxref09_Parse.l0 k s acc (fr : Int) (i : Int) = some (match refLoop (splitL ((s.data.toList.drop fr).take (i - fr)) (s.data.toList.drop i)) acc with
      | some out => if validB out = true then (out, true) else ([], false)
      | none => ([], false)) := by
  have hsz := size_list s
  have hext : ∀ (fr i : Nat), fr ≤ i → i ≤ s.size → (s.extract fr i).data.toList = (s.data.toList.drop fr).take (i - fr) := by
    intro fr i h1 h2
    rw [ByteArray.data_extract, Array.toList_extract, List.extract_eq_take_drop]
  have hes : ∀ (fr i : Nat), (s.extract fr i).size ≤ s.size := by
    intro fr i
    rw [ByteArray.size_extract]; omega
  intro d
  induction d with
  | zero =>
    intro k i fr acc h1 hfr ha hno hk
    obtain ⟨k, rfl⟩ : ∃ m, k = m + 3 := ⟨k - 3, by omega⟩
    have e0 : s.data.toList.drop i = [] := List.drop_eq_nil_of_le (by omega)
    rw [pyxref09_Parse.l0, if_pos (by omega), if_neg (by omega), pyxref09_Parse.j1, if_neg (by decide), if_pos (by omega), if_pos (by omega), if_pos (by omega)]
    simp only [Int.toNat_natCast]
    rw [ref_number _ (by have := hes fr i; omega) _ (by have := hes fr i; omega), hext fr i hfr (by omega), e0]
    simp only [Option.bind_some, splitL, refLoop]
    by_cases hn : numR ((s.data.toList.drop fr).take (i - fr)) < 0
    · rw [if_pos hn, if_pos hn]
    · rw [if_neg hn, if_neg hn, if_pos (by omega)]
      have hle : numR ((s.data.toList.drop fr).take (i - fr)) ≤ 4294967295 := by
        unfold numR; split <;> omega
      rw [i64_in _ (by omega) (by omega), pyxref09_Parse.l0, if_neg (by omega), final_ref _ _ (by omega), show numR ((s.data.toList.drop fr).take (i - fr)) % 4294967296 = numR ((s.data.toList.drop fr).take (i - fr)) by omega]
  | succ d ih =>
    intro k i fr acc h1 hfr ha hno hk
    obtain ⟨k, rfl⟩ : ∃ m, k = m + 2 := ⟨k - 2, by omega⟩
    have hlt : i < s.data.toList.length := by omega
    have hbt := bt_list s i hlt
    obtain ⟨c, ec⟩ : ∃ c, c = s.data.toList[i] := ⟨_, rfl⟩
    rw [← ec] at hbt
    have e0 : s.data.toList.drop i = c :: s.data.toList.drop (i + 1) := by rw [ec]; exact List.drop_eq_getElem_cons hlt
    have ecur : (s.data.toList.drop fr).take (i + 1 - fr) = (s.data.toList.drop fr).take (i - fr) ++ [c] := by
      rw [show i + 1 - fr = i - fr + 1 by omega, List.take_succ_eq_append_getElem (by rw [List.length_drop]; omega), ec]
      congr 2
      simp [List.getElem_drop, show fr + (i - fr) = i by omega]
    rw [pyxref09_Parse.l0, if_pos (by omega), if_pos (by omega), if_pos (by omega), hbt, pyxref09_Parse.j1, e0]
    simp only [splitL]
    by_cases h46 : c = 46
    · subst h46
      rw [if_neg (by decide), if_pos (by omega), if_pos (by omega), if_pos (by omega), if_pos rfl]
      simp only [Int.toNat_natCast]
      rw [ref_number _ (by have := hes fr i; omega) _ (by have := hes fr i; omega), hext fr i hfr (by omega)]
      simp only [Option.bind_some, refLoop]
      by_cases hn : numR ((s.data.toList.drop fr).take (i - fr)) < 0
      · rw [if_pos hn, if_pos hn]
      · have hle : numR ((s.data.toList.drop fr).take (i - fr)) ≤ 4294967295 := by
          unfold numR; split <;> omega
        rw [if_neg hn, if_neg hn, if_pos (by omega), i64_in _ (by omega) (by omega), show numR ((s.data.toList.drop fr).take (i - fr)) % 4294967296 = numR ((s.data.toList.drop fr).take (i - fr)) by omega]
        have := ih k (i + 1) (i + 1) (acc ++ [numR ((s.data.toList.drop fr).take (i - fr))]) (by omega) (by omega) (by simp; omega) (by simp) (by omega)
        rw [show ((i + 1 : Nat) : Int) = (i : Int) + 1 from by omega, Nat.sub_self, List.take_zero] at this
        exact this
    · have hcn : (((c.toNat : Nat) : Int) != 46) = true := by
        rw [bne_iff_ne]
        intro e
        apply h46
        apply UInt8.toNat_inj.1
        show c.toNat = 46
        omega
      rw [hcn, if_pos rfl, if_neg h46, i64_in _ (by omega) (by omega)]
      have := ih k (i + 1) fr acc (by omega) (by omega) (by omega) (by
        rw [ecur]
        intro x hx
        rcases List.mem_append.1 hx with hx | hx
        · exact hno x hx
        · simp only [List.mem_singleton] at hx; rw [hx]; exact h46) (by omega)
      rw [show ((i + 1 : Nat) : Int) = (i : Int) + 1 from by omega, ecur] at this
      exact this

theorem ref_parse (s : ByteArray) (hs : s.size ≤ 1000000) (k : Nat) (hk : 3 * s.size + 40 ≤ k) : pyxref09_Parse.f k s = some (refParse s.data.toList) := by
  have := parse_ref_loop s hs s.size k 0 0 [] (by omega) (by omega) (by simp) (by simp) (by omega)
  simp only [Nat.sub_self, List.take_zero, List.drop_zero] at this
  exact this

/-- OidParses: the pure statement. -/
theorem OidParses : pyxlaw09_OidParses.Pure := by
  intro s hsz
  refine ⟨3 * s.size + 100, ?_⟩
  unfold pyxlaw09_OidParses.f pyxlaw09_awake.f
  simp only [Option.bind_some]
  rw [if_pos trivial]
  obtain ⟨k, hk⟩ : ∃ k, 3 * s.size + 100 = k + 1 := ⟨3 * s.size + 99, by omega⟩
  rw [hk, pyxlaw09_OidParses.j0]
  by_cases h5 : 500 < s.size
  · rw [decide_eq_true (by omega), if_pos rfl]
    rfl
  · rw [decide_eq_false (by omega), if_neg (by decide), ref_parse s (by omega) k (by omega)]
    unfold oid_Parse.f
    rw [if_pos (by omega)]
    simp only [Option.bind_some, slices_Equal_uint32_uint32.f]
    rw [parse_eq s, decide_eq_true rfl, if_pos rfl, if_pos (by simp)]
    rcases refParse_two s.data.toList with ⟨l, h⟩ | h
    · obtain ⟨hv, hp, hs⟩ := good_refParse h
      rw [h]
      simp only
      rw [if_pos trivial]
      unfold oid_Text.f textB
      rw [if_pos (List.all_eq_true.2 (fun x hx => by simpa using hp x hx)), if_pos hv]
      simp only [Option.bind_some, Lib.toList_data, hs]
      simp
    · rw [h]
      simp

end Go.Proofs.YtjoncjnmhhimhaaDoor.Pure
