/- OidBelow: the pure statement. An identifier is below another one exactly if its text begins with the text of that one and a dot. -/
import Derived.Test.YtjoncjnmhhimhaaDoorPOidBx
import Derived.Test.YtjoncjnmhhimhaaDoorOidRead2
import Derived.Test.YtjoncjnmhhimhaaDoorOidAwake
import Derived.Test.YtjoncjnmhhimhaaDoorRefText
namespace Go.Proofs.YtjoncjnmhhimhaaDoor.Pure
set_option linter.unusedVariables false
set_option linter.unusedSimpArgs false
open Go.RowKit Go.Proofs.YtjoncjnmhhimhaaDoorW.PrintWords Go.Proofs.YtjoncjnmhhimhaaDoorW.PrintLast Go.Proofs.YtjoncjnmhhimhaaDoorW.PrintMore
open Go.Proofs.YtjoncjnmhhimhaaDoor.Oid Go.Proofs.YtjoncjnmhhimhaaDoor.Hand Go.Proofs.YtjoncjnmhhimhaaDoor.POidB

theorem u32_pos {l : List Int} (h : ∀ x ∈ l, (Lit.int .u32 x).wf = true) : (l.all fun x => decide (0 ≤ x)) = true := by
  apply List.all_eq_true.2
  intro x hx
  have := h x hx
  simp [Lit.wf, IntKind.min, IntKind.max, IntKind.signed, IntKind.bits] at this
  simp
  omega
theorem splitL_text : ∀ (ws : List (List UInt8)), ws ≠ [] → (∀ w ∈ ws, ∀ c ∈ w, c ≠ (46 : UInt8)) → ∀ z, splitL [] (Lib.join ws [46] ++ 46 :: z) = ws ++ splitL [] z
  | [], h, _, _ => absurd rfl h
  | [w], _, h, z => by
    rw [join_one, splitL_skip w (h w (by simp))]
    simp [splitL]
  | w :: v :: ws, _, h, z => by
    rw [join_cons, List.append_assoc, splitL_skip w (h w (by simp))]
    simp only [List.cons_append, splitL, if_true, List.nil_append]
    rw [splitL_text (v :: ws) (by simp) (fun x hx => h x (by simp only [List.mem_cons] at hx ⊢; exact .inr hx))]
    simp
theorem join_app : ∀ (ws : List (List UInt8)), ws ≠ [] → ∀ vs, vs ≠ [] → Lib.join (ws ++ vs) [46] = Lib.join ws [46] ++ 46 :: Lib.join vs [46]
  | [], h, _, _ => absurd rfl h
  | [w], _, vs, hv => by
    match vs, hv with
    | v :: vs, _ => rw [List.singleton_append, join_cons, join_one]
  | w :: v :: ws, _, vs, hv => by
    rw [List.cons_append, List.cons_append, join_cons, ← List.cons_append, join_app (v :: ws) (by simp) vs hv, join_cons]
    simp
theorem dec_ne (n : Nat) : Lib.decDigits n ≠ [] := (dec_canon n).1.1
theorem textL_ne {l : List Int} (h : l ≠ []) : textL l ≠ [] := by
  match l, h with
  | x :: l, _ =>
    intro e
    unfold textL at e
    cases l with
    | nil =>
      rw [List.map_cons, List.map_nil, join_one] at e
      exact dec_ne _ e
    | cons y l =>
      rw [List.map_cons, List.map_cons, join_cons] at e
      simp at e
theorem dec_inj : ∀ {l m : List Int}, (∀ x ∈ l, 0 ≤ x) → (∀ x ∈ m, 0 ≤ x) → (l.map fun n => Lib.decDigits n.toNat) = (m.map fun n => Lib.decDigits n.toNat) → l = m
  | [], [], _, _, _ => rfl
  | [], y :: m, _, _, h => by simp at h
  | x :: l, [], _, _, h => by simp at h
  | x :: l, y :: m, hl, hm, h => by
    simp only [List.map_cons, List.cons.injEq] at h
    have h1 : x.toNat = y.toNat := by rw [← (dec_canon x.toNat).2, h.1, (dec_canon y.toNat).2]
    have h2 := hl x (by simp)
    have h3 := hm y (by simp)
    rw [dec_inj (fun x hx => hl x (by simp [hx])) (fun x hx => hm x (by simp [hx])) h.2, show x = y by omega]
theorem text_below {l0 l1 : List Int} (h0 : validB l0 = true) (p0 : ∀ x ∈ l0, 0 ≤ x) (h1 : validB l1 = true) (p1 : ∀ x ∈ l1, 0 ≤ x) :
    (l1.length < l0.length ∧ l0.take l1.length = l1) ↔ ((textL l1).length + 1 < (textL l0).length ∧ (textL l0).take ((textL l1).length + 1) = textL l1 ++ [46]) := by
  have n1 := ((valid_iff l1).1 h1).1
  have n0 := ((valid_iff l0).1 h0).1
  have e1 : l1 ≠ [] := by intro e; rw [e] at n1; simp at n1
  have e0 : l0 ≠ [] := by intro e; rw [e] at n0; simp at n0
  have m1 : (l1.map fun n => Lib.decDigits n.toNat) ≠ [] := by simpa using e1
  constructor
  · rintro ⟨hlt, ht⟩
    obtain ⟨r, hr⟩ : ∃ r, l0 = l1 ++ r := ⟨l0.drop l1.length, by have := (List.take_append_drop l1.length l0).symm; rwa [ht] at this⟩
    have hre : r ≠ [] := by intro e; rw [hr, e] at hlt; simp at hlt
    have et : textL l0 = textL l1 ++ 46 :: textL r := by
      unfold textL
      rw [hr, List.map_append]
      exact join_app _ m1 _ (by simpa using hre)
    have hz := textL_ne hre
    have hz' : 0 < (textL r).length := List.length_pos_iff.2 hz
    rw [et]
    refine ⟨by simp; omega, ?_⟩
    rw [show textL l1 ++ 46 :: textL r = (textL l1 ++ [46]) ++ textL r by simp]
    exact List.take_left' (by simp)
  · rintro ⟨hlt, ht⟩
    obtain ⟨z, hz⟩ : ∃ z, textL l0 = textL l1 ++ 46 :: z := ⟨(textL l0).drop ((textL l1).length + 1), by
      have := (List.take_append_drop ((textL l1).length + 1) (textL l0)).symm
      rw [ht] at this
      simpa using this⟩
    have hs : splitL [] (textL l0) = l0.map fun n => Lib.decDigits n.toNat := split_text ⟨h0, p0, rfl⟩
    rw [hz] at hs
    have := splitL_text (l1.map fun n => Lib.decDigits n.toNat) m1 (by
      intro w hw
      obtain ⟨n, _, rfl⟩ := List.mem_map.1 hw
      exact dec_no46 _) z
    have hs2 : (l0.map fun n => Lib.decDigits n.toNat) = (l1.map fun n => Lib.decDigits n.toNat) ++ splitL [] z := by
      rw [← hs, ← this]
      rfl
    have hne := splitL_ne z []
    have hlen := congrArg List.length hs2
    have hpos : 0 < (splitL [] z).length := List.length_pos_iff.2 hne
    simp only [List.length_append, List.length_map] at hlen
    refine ⟨by omega, ?_⟩
    apply dec_inj (fun x hx => p0 x (List.mem_of_mem_take hx)) p1
    rw [List.map_take, hs2]
    exact List.take_left' (by simp)

theorem below_true (k : Nat) (l0 l1 : List Int) : pyxlaw09_OidBelow.j0 (k + 1) l0 l1 true = some true := by
  rw [pyxlaw09_OidBelow.j0, if_pos rfl]
  rfl
theorem textB_no {l : List Int} (h : ¬ validB l = true) : textB l = ⟨#[]⟩ := by unfold textB; rw [if_neg h]
theorem textB_yes {l : List Int} (h : validB l = true) : textB l = ⟨(textL l).toArray⟩ := by unfold textB; rw [if_pos h]
theorem OidBelow : pyxlaw09_OidBelow.Pure := by
  intro l0 l1 _ _ hw0 _ _ hw1
  refine ⟨1, ?_⟩
  have q0 := u32_pos hw0
  have q1 := u32_pos hw1
  have p0 : ∀ x ∈ l0, 0 ≤ x := fun x hx => by simpa using List.all_eq_true.1 q0 x hx
  have p1 : ∀ x ∈ l1, 0 ≤ x := fun x hx => by simpa using List.all_eq_true.1 q1 x hx
  unfold pyxlaw09_OidBelow.f pyxlaw09_awake.f
  simp only [Option.bind_some]
  rw [if_pos trivial]
  by_cases h0 : (l0.length : Int) > 100
  · rw [if_pos h0, below_true]
  rw [if_neg h0]
  by_cases h1 : (l1.length : Int) > 100
  · rw [decide_eq_true h1, below_true]
  rw [decide_eq_false h1, pyxlaw09_OidBelow.j0, if_neg (by decide)]
  unfold pyxref09_Text.f oid_Text.f oid_Below.f
  rw [if_pos q0, if_pos q1]
  simp only [Option.bind_some]
  have hmn : ∀ a b : Int, a < b → mn a b = a := by intro a b h; unfold mn; split <;> omega
  have hsz : ∀ l, (textB l).size ≤ 100000 := by
    intro l
    by_cases v : validB l = true
    · have := (valid_iff l).1 v
      rw [textB_yes v, ba_size]
      have := join_len (l.map fun n => Lib.decDigits n.toNat) 20 (fun w hw => by
        obtain ⟨n, hn, rfl⟩ := List.mem_map.1 hw
        exact dec_len _ (by have := ((valid_iff l).1 v).2.2.2.2 n hn; omega))
      rw [List.length_map] at this
      unfold textL
      omega
    · rw [textB_no v]
      show (0 : Nat) ≤ _
      omega
  have hs1 := hsz l1
  rw [if_pos (by omega)]
  by_cases v0 : validB l0 = true
  · have n0 := ((valid_iff l0).1 v0).1
    have e0 : l0 ≠ [] := by intro e; rw [e] at n0; simp at n0
    have t0 : ¬ (textB l0).toList = [] := by rw [textB_yes v0, Lib.toList_data]; exact textL_ne e0
    rw [if_neg t0]
    by_cases v1 : validB l1 = true
    · have n1 := ((valid_iff l1).1 v1).1
      have e1 : l1 ≠ [] := by intro e; rw [e] at n1; simp at n1
      have eap : (textB l1 ++ (⟨#[46]⟩ : ByteArray)) = ⟨(textL l1 ++ [46]).toArray⟩ := by
        rw [textB_yes v1]
        apply ByteArray.ext
        simp
      rw [eap]
      have t1 : ¬ (⟨(textL l1 ++ [46]).toArray⟩ : ByteArray).toList = [46] := by
        rw [Lib.toList_data]
        intro e
        have := textL_ne e1
        have hl := congrArg List.length e
        simp at hl
        exact this hl
      rw [if_neg t1, v0, v1]
      have z0 : (textB l0).size = (textL l0).length := by rw [textB_yes v0, ba_size]
      have z1 : (⟨(textL l1 ++ [46]).toArray⟩ : ByteArray).size = (textL l1).length + 1 := by rw [ba_size]; simp
      have hiff := text_below v0 p0 v1 p1
      by_cases hlt : (textL l1).length + 1 < (textL l0).length
      · rw [if_pos (by rw [z0, z1]; omega), hmn _ _ (by rw [z0, z1]; omega), if_pos (by omega), if_pos (by rw [z0, z1]; omega), Int.toNat_natCast, z1]
        have ee : ((textB l0).extract 0 ((textL l1).length + 1)).toList = (textL l0).take ((textL l1).length + 1) := by
          rw [textB_yes v0, Lib.toList_data, ByteArray.data_extract, Array.toList_extract, List.extract_eq_take_drop]
          simp
        rw [ee, Lib.toList_data]
        show some _ = some true
        by_cases hb : l1.length < l0.length ∧ l0.take l1.length = l1
        · rw [(hiff.1 hb).2, decide_eq_true hb.1, decide_eq_true hb.2]
          simp
        · have hne : ¬ (textL l0).take ((textL l1).length + 1) = textL l1 ++ [46] := fun h => hb (hiff.2 ⟨hlt, h⟩)
          have hx : (true && true && decide (l1.length < l0.length) && decide (l0.take l1.length = l1)) = false := by
            rw [Bool.and_true, Bool.true_and]
            by_cases c1 : l1.length < l0.length
            · by_cases c2 : l0.take l1.length = l1
              · exact absurd ⟨c1, c2⟩ hb
              · rw [decide_eq_false c2, Bool.and_false]
            · rw [decide_eq_false c1, Bool.false_and]
          rw [hx]
          have : ((textL l0).take ((textL l1).length + 1) == textL l1 ++ [46]) = false := by simpa using hne
          rw [this]
          rfl
      · rw [if_neg (by rw [z0, z1]; omega)]
        have hx : (true && true && decide (l1.length < l0.length) && decide (l0.take l1.length = l1)) = false := by
          rw [Bool.and_true, Bool.true_and]
          by_cases c1 : l1.length < l0.length
          · by_cases c2 : l0.take l1.length = l1
            · exact absurd (hiff.1 ⟨c1, c2⟩).1 hlt
            · rw [decide_eq_false c2, Bool.and_false]
          · rw [decide_eq_false c1, Bool.false_and]
        rw [hx]
        rfl
    · rw [textB_no v1]
      have : ((⟨#[]⟩ : ByteArray) ++ (⟨#[46]⟩ : ByteArray)).toList = [46] := by
        rw [Lib.toList_data]
        rfl
      rw [if_pos this, Bool.eq_false_iff.2 v1]
      simp
  · rw [textB_no v0, if_pos (by rw [Lib.toList_data]), Bool.eq_false_iff.2 v0]
    simp
end Go.Proofs.YtjoncjnmhhimhaaDoor.Pure
