/- oid.Text returns the text of an identifier, and the empty string of another list: the printed loop comes to the plain function. -/
import Derived.Test.YtjoncjnmhhimhaaDoorPTextx
import Derived.Test.YtjoncjnmhhimhaaDoorOidSpec
import Derived.Test.YtjoncjnmhhimhaaDoorEq
import Derived.Test.YtjoncjnmhhimhaaDoorEq
namespace Go.Proofs.YtjoncjnmhhimhaaDoor.Hand
set_option linter.unusedVariables false
set_option linter.unusedSimpArgs false
open Go.RowKit Go.Proofs.YtjoncjnmhhimhaaDoorW.PrintWords Go.Proofs.YtjoncjnmhhimhaaDoorW.PrintLast Go.Proofs.YtjoncjnmhhimhaaDoorW.PrintMore
open Go.Proofs.YtjoncjnmhhimhaaDoor.Oid


theorem dec_len (u : Nat) (h : u < 18446744073709551616) : (Lib.decDigits u).length ≤ 20 := by
  rw [Lib.decDigits_length]
  rcases Nat.eq_zero_or_pos u with rfl | h1
  · rw [Lib.nDigits_small (by omega)]; omega
  · have := Lib.numDigits_eq u h1 h
    split at this <;> omega
theorem join_len (ws : List (List UInt8)) (m : Nat) (h : ∀ w ∈ ws, w.length ≤ m) : (Lib.join ws [46]).length ≤ ws.length * (m + 1) := by
  induction ws with
  | nil => simp [join_nil]
  | cons w ws ih =>
    have hw := h w (by simp)
    cases ws with
    | nil => rw [join_one]; simp; omega
    | cons v ws =>
      have := ih (fun x hx => h x (List.mem_cons_of_mem _ hx))
      rw [join_cons]
      simp only [List.length_append, List.length_cons] at this ⊢
      rw [Nat.add_mul (ws.length + 1) 1 (m + 1)]
      omega

theorem text_loop (l : List Int) (hn : l.length ≤ 20) (hp : ∀ x ∈ l, 0 ≤ x ∧ x < 4294967296) : ∀ (d k i : Nat) (acc : List ByteArray), i + d = l.length → acc.length = i → d < k →
    PText.oid_Text.l0 k acc l (l.length : Int) (i : Int) = strings_Join.f (acc ++ (l.drop i).map fun n => decB n.toNat) ⟨#[46]⟩ := by
  intro d
  induction d with
  | zero =>
    intro k i acc h1 h2 h3
    obtain ⟨k, rfl⟩ : ∃ m, k = m + 1 := ⟨k - 1, by omega⟩
    have : l.drop i = [] := List.drop_eq_nil_of_le (by omega)
    simp only [PText.oid_Text.l0]
    rw [if_neg (by omega), this]
    simp
  | succ d ih =>
    intro k i acc h1 h2 h3
    obtain ⟨k, rfl⟩ : ∃ m, k = m + 1 := ⟨k - 1, by omega⟩
    have hlt : i < l.length := by omega
    have hrd : rd l (i : Int) = l[i] := by simp [rd, List.getD, hlt]
    obtain ⟨p0, p1⟩ := hp l[i] (List.getElem_mem hlt)
    simp only [PText.oid_Text.l0]
    rw [if_pos (by omega), if_pos (by omega), if_pos (by omega), hrd, u64_in _ p0 (by omega)]
    have hf : strconv_FormatUint.f l[i] 10 = some (decB l[i].toNat) := by unfold strconv_FormatUint.f; rw [if_pos ⟨p0, by omega, rfl⟩]
    rw [hf]
    simp only [Option.bind_some]
    rw [if_pos (by omega), i64_in _ (by omega) (by omega)]
    have := ih k (i + 1) (acc ++ [decB l[i].toNat]) (by omega) (by simp; omega) (by omega)
    rw [show ((i + 1 : Nat) : Int) = (i : Int) + 1 from by omega] at this
    rw [this, List.drop_eq_getElem_cons hlt, List.map_cons, List.append_assoc]
    rfl

theorem valid_parts {l : List Int} (h : validB l = true) : 2 ≤ l.length ∧ l.length ≤ 20 ∧ l.getD 0 0 ≤ 2 ∧ (2 ≤ l.getD 0 0 ∨ l.getD 1 0 < 40) ∧ ∀ n ∈ l, n < 4294967216 := by
  unfold validB at h
  simp only [Bool.and_eq_true, Bool.or_eq_true, decide_eq_true_eq, List.all_eq_true] at h
  exact ⟨h.1.1.1.1, h.1.1.1.2, h.1.1.2, h.1.2, h.2⟩

theorem text_comes (l : List Int) (hp : ∀ x ∈ l, 0 ≤ x) : PText.oid_Text.f 21 l = some (textB l) := by
  unfold PText.oid_Text.f oid_Valid.f
  simp only [Option.bind_some]
  by_cases hv : validB l = true
  · obtain ⟨h1, h2, _, _, h5⟩ := valid_parts hv
    rw [if_pos hv]
    have := text_loop l h2 (fun x hx => ⟨hp x hx, by have := h5 x hx; omega⟩) l.length 21 0 [] (by omega) rfl (by omega)
    rw [show ((0 : Nat) : Int) = 0 from rfl] at this
    rw [this]
    unfold textB
    rw [if_pos hv]
    have e : (([] ++ (List.drop 0 l).map fun n => decB n.toNat) : List ByteArray).map (·.data.toList) = l.map fun n => Lib.decDigits n.toNat := by
      simp [decB]
    have hl : (Lib.join (l.map fun n => Lib.decDigits n.toNat) [46]).length ≤ 140737488355328 := by
      have := join_len (l.map fun n => Lib.decDigits n.toNat) 20 (fun w hw => by
        obtain ⟨n, hn, rfl⟩ := List.mem_map.1 hw
        exact dec_len _ (by have := h5 n hn; omega))
      rw [List.length_map] at this
      omega
    unfold strings_Join.f
    rw [e, if_pos ⟨by simp; omega, hl⟩]
    rfl
  · rw [if_neg hv]
    unfold textB
    rw [if_neg hv]

theorem oid_Text.calls (A0 : Option Addr) (c0 : Nat) (l0 : List Int) (r : ByteArray) (w : World) (HLd : LaidOk w) (hr0 : Kd.C (Kd.int .u32) w A0 l0.length l0) (hc0 : l0.length ≤ c0) (h : oid_Text.f l0 = some r) :
    Calls Tryd.prog 16 #[.slice A0 l0.length c0] w fun e w' => e = .returned (.string r) ∧ Below w.heap.size w w' := by
  unfold oid_Text.f at h
  by_cases hp : (l0.all fun x => decide (0 ≤ x)) = true
  · rw [if_pos hp] at h
    refine PText.oid_Text.calls 21 A0 c0 l0 r w HLd hr0 hc0 ?_
    rw [text_comes l0 (fun x hx => by simpa using List.all_eq_true.1 hp x hx)]
    exact h
  · rw [if_neg hp] at h
    cases h

end Go.Proofs.YtjoncjnmhhimhaaDoor.Hand
