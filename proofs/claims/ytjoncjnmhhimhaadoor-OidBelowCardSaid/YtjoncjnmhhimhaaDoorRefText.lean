/- pyxref09.Text comes to the same plain function as the program's Text. -/
import Derived.Test.YtjoncjnmhhimhaaDoorPRefTx
import Derived.Test.YtjoncjnmhhimhaaDoorRef9
import Derived.Test.YtjoncjnmhhimhaaDoorDecimal
namespace Go.Proofs.YtjoncjnmhhimhaaDoor.Hand
set_option linter.unusedVariables false
set_option linter.unusedSimpArgs false
open Go.RowKit Go.Proofs.YtjoncjnmhhimhaaDoorW.PrintWords Go.Proofs.YtjoncjnmhhimhaaDoorW.PrintLast Go.Proofs.YtjoncjnmhhimhaaDoorW.PrintMore
open Go.Proofs.YtjoncjnmhhimhaaDoor.Oid

/-- The texts of more numbers, each behind a dot. -/
def dotted (l : List Int) : List UInt8 := l.flatMap fun n => 46 :: Lib.decDigits n.toNat
theorem join_dotted (x : Int) (l : List Int) : Lib.join ((x :: l).map fun n => Lib.decDigits n.toNat) [46] = Lib.decDigits x.toNat ++ dotted l := by
  induction l generalizing x with
  | nil => simp [join_one, dotted]
  | cons y l ih =>
    rw [List.map_cons, List.map_cons, join_cons, ← List.map_cons (f := fun n : Int => Lib.decDigits n.toNat), ih y]
    simp [dotted]
theorem ba_size (l : List UInt8) : (⟨l.toArray⟩ : ByteArray).size = l.length := by
  show l.toArray.size = _
  simp
theorem refText_loop (l : List Int) (hn : l.length ≤ 20) (hp : ∀ x ∈ l, 0 ≤ x ∧ x < 4294967296) : ∀ (d k i : Nat) (acc : List UInt8), i + d = l.length → acc.length ≤ 1000 * (i + 1) → d < k →
    PRefT.pyxref09_Text.l0 k l ⟨acc.toArray⟩ (i : Int) = some ⟨(acc ++ dotted (l.drop i)).toArray⟩ := by
  intro d
  induction d with
  | zero =>
    intro k i acc h1 h2 h3
    obtain ⟨k, rfl⟩ : ∃ m, k = m + 1 := ⟨k - 1, by omega⟩
    have : l.drop i = [] := List.drop_eq_nil_of_le (by omega)
    rw [PRefT.pyxref09_Text.l0, if_neg (by omega), this]
    simp [dotted]
  | succ d ih =>
    intro k i acc h1 h2 h3
    obtain ⟨k, rfl⟩ : ∃ m, k = m + 1 := ⟨k - 1, by omega⟩
    have hlt : i < l.length := by omega
    have hrd : rd l (i : Int) = l[i] := by simp [rd, List.getD, hlt]
    obtain ⟨p0, p1⟩ := hp l[i] (List.getElem_mem hlt)
    have hz := ba_size acc
    have hsz := decB_size l[i].toNat (by omega)
    rw [PRefT.pyxref09_Text.l0, if_pos (by omega), if_pos (by omega), if_pos (by omega), hrd, i64_in _ (by omega) (by omega)]
    unfold pyxref02_Decimal.f
    rw [if_pos ⟨p0, by omega⟩]
    simp only [Option.bind_some]
    have e1 : ((⟨acc.toArray⟩ : ByteArray) ++ (⟨#[46]⟩ : ByteArray)).size = acc.length + 1 := by
      rw [ByteArray.size_append, hz]
      rfl
    rw [if_pos (by omega), i64_in _ (by omega) (by omega)]
    have hd := dec_len l[i].toNat (by omega)
    have := ih k (i + 1) (acc ++ 46 :: Lib.decDigits l[i].toNat) (by omega) (by simp; omega) (by omega)
    rw [show ((i + 1 : Nat) : Int) = (i : Int) + 1 from by omega] at this
    have e2 : (⟨acc.toArray⟩ : ByteArray) ++ (⟨#[46]⟩ : ByteArray) ++ decB l[i].toNat = ⟨(acc ++ 46 :: Lib.decDigits l[i].toNat).toArray⟩ := by
      apply ByteArray.ext
      simp [decB]
    have e3 : dotted (l.drop i) = 46 :: Lib.decDigits l[i].toNat ++ dotted (l.drop (i + 1)) := by
      rw [List.drop_eq_getElem_cons hlt, dotted, List.flatMap_cons]
      rfl
    rw [e2, this, e3, List.append_assoc]

theorem refText_comes (l : List Int) (hp : ∀ x ∈ l, 0 ≤ x) : PRefT.pyxref09_Text.f 22 l = some (textB l) := by
  unfold PRefT.pyxref09_Text.f pyxref09_Valid.f textB
  simp only [Option.bind_some]
  by_cases hv : validB l = true
  · rw [if_pos hv, if_pos hv]
    obtain ⟨h1, h2, _, _, h5⟩ := valid_parts hv
    have hpp : ∀ x ∈ l, 0 ≤ x ∧ x < 4294967296 := fun x hx => ⟨hp x hx, by have := h5 x hx; omega⟩
    match l, h1, h2, hpp with
    | x :: l, h1, h2, hpp =>
      obtain ⟨p0, p1⟩ := hpp x (by simp)
      rw [if_pos (by simp), show rd (x :: l) 0 = x from rfl, i64_in _ (by omega) (by omega)]
      unfold pyxref02_Decimal.f
      rw [if_pos ⟨p0, by omega⟩]
      simp only [Option.bind_some]
      have hd := dec_len x.toNat (by omega)
      have := refText_loop (x :: l) h2 hpp l.length 22 1 (Lib.decDigits x.toNat) (by simp; omega) (by omega) (by simp at h2; omega)
      rw [show ((1 : Nat) : Int) = 1 from rfl] at this
      show PRefT.pyxref09_Text.l0 22 (x :: l) ⟨(Lib.decDigits x.toNat).toArray⟩ 1 = _
      rw [this]
      unfold textL
      rw [join_dotted]
      rfl
  · rw [if_neg hv, if_neg hv]

def pyxref09_Text.f (l0 : List Int) : Option ByteArray := oid_Text.f l0
theorem pyxref09_Text.calls (A0 : Option Addr) (c0 : Nat) (l0 : List Int) (r : ByteArray) (w : World) (HLd : LaidOk w) (hr0 : Kd.C (Kd.int .u32) w A0 l0.length l0) (hc0 : l0.length ≤ c0) (h : pyxref09_Text.f l0 = some r) :
    Calls Tryd.prog 21 #[.slice A0 l0.length c0] w fun e w' => e = .returned (.string r) ∧ Below w.heap.size w w' := by
  unfold pyxref09_Text.f oid_Text.f at h
  by_cases hp : (l0.all fun x => decide (0 ≤ x)) = true
  · rw [if_pos hp] at h
    refine PRefT.pyxref09_Text.calls 22 A0 c0 l0 r w hr0 hc0 ?_
    rw [refText_comes l0 (fun x hx => by simpa using List.all_eq_true.1 hp x hx)]
    exact h
  · rw [if_neg hp] at h
    cases h

end Go.Proofs.YtjoncjnmhhimhaaDoor.Hand
