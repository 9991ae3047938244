/- oid.Content: the closure that lays the group of a number behind the bytes that are there, and the function that calls it for each number. -/
import Derived.Test.YtjoncjnmhhimhaaDoorOidValid
import Derived.Test.YtjoncjnmhhimhaaDoorOidText
import Derived.RangeFuncNested
import Derived.RangeFuncBox
import Derived.WalkSpells
import Derived.Laws.EntriesVeiled
import Derived.StillTailTactics
namespace Go.Proofs.YtjoncjnmhhimhaaDoor.Hand
set_option linter.unusedVariables false
set_option linter.unusedSimpArgs false
open Go.RowKit Go.Proofs.YtjoncjnmhhimhaaDoorW.PrintWords Go.Proofs.YtjoncjnmhhimhaaDoorW.PrintLast Go.Proofs.YtjoncjnmhhimhaaDoorW.PrintMore
open Go.Proofs.YtjoncjnmhhimhaaDoor.Oid

theorem grpL_small {n m : Nat} (h : n < 128) : grpL n m = [((n % 128 + m : Nat) : Int)] := by rw [grpL, dif_pos h]
theorem grpL_big {n m : Nat} (h : ¬ n < 128) : grpL n m = grpL (n / 128) 128 ++ [((n % 128 + m : Nat) : Int)] := by rw [grpL, dif_neg h]
theorem grpL_len (n : Nat) : ∀ m, (grpL n m).length ≤ n + 1 := by
  induction n using Nat.strongRecOn with
  | _ n ih =>
    intro m
    by_cases h : n < 128
    · rw [grpL_small h]; simp
    · rw [grpL_big h]
      have := ih (n / 128) (by omega) 128
      simp only [List.length_append, List.length_cons, List.length_nil]
      omega
theorem or_mark (x : Nat) (hx : x < 128) (m : Nat) (hm : m = 0 ∨ m = 128) : Go.bits .or .u8 (x : Int) (m : Int) = ((x + m : Nat) : Int) := by
  rcases hm with rfl | rfl
  · have : ∀ x : Fin 128, Go.bits .or .u8 ((x.val : Nat) : Int) ((0 : Nat) : Int) = ((x.val + 0 : Nat) : Int) := by decide +kernel
    exact this ⟨x, hx⟩
  · have : ∀ x : Fin 128, Go.bits .or .u8 ((x.val : Nat) : Int) ((128 : Nat) : Int) = ((x.val + 128 : Nat) : Int) := by decide +kernel
    exact this ⟨x, hx⟩
theorem info_u8 : (Tryd.prog.info? 5).map (fun i => (i.zero, i.size, i.bytes)) = some (some (.int .u8 0), 1, 1) := by kernel_rfl

/-- The two boxes and the bytes that are laid. -/
structure GrpSt (W : World) (n0 G O : Nat) (v : Value) (xs : List Int) : Prop where
  g : Boxed W G 70 (.func (.func 43) #[] #[.pointer (some ⟨G, 0, none⟩), .pointer (some ⟨O, 0, none⟩)])
  o : Boxed W O 30 v
  r : W.ownsRow n0 5 1 v xs.length (nums .u8 xs)
  hO : O < n0
  hG : G < n0
  ne : G ≠ O
  sz : n0 ≤ W.heap.size

theorem nums_one (xs : List Int) (y : Int) : nums .u8 xs ++ [Value.int .u8 y] = nums .u8 (xs ++ [y]) := by simp [nums]
/-- A byte more, and the box says so. -/
theorem GrpSt.put {W w1 : World} {n0 G O : Nat} {v v1 : Value} {xs : List Int} {y : Int} (S : GrpSt W n0 G O v xs) (ho : w1.ownsRow n0 5 1 v1 (xs ++ [y]).length (nums .u8 (xs ++ [y]))) (hg : W.grownBy w1 v.ownBlock) :
    GrpSt (w1.setCell ⟨O, 0, none⟩ v1) n0 G O v1 (xs ++ [y]) := by
  have hG := S.hG
  have hO := S.hO
  have nG : some G ≠ v.ownBlock := fun e => by have := own_base S.r G e.symm; omega
  have nO : some O ≠ v.ownBlock := fun e => by have := own_base S.r O e.symm; omega
  have h1 := S.g.kept hg nG
  have h2 := S.o.kept hg nO
  refine ⟨h1.other S.ne v1, h2.set v1, ?_, hO, hG, S.ne, ?_⟩
  · exact ho.kept (grownBy_setCell' w1 O v1) (.inr fun e => by have := own_base ho O e; omega)
  · have := hg.size
    have := S.sz
    simp [World.setCell]
    omega

set_option maxHeartbeats 2000000 in
theorem grp_any (n0 G O : Nat) (n : Nat) : ∀ (mark : Nat) (hm : mark = 0 ∨ mark = 128) (hn : n < 18446744073709551616) (W : World) (v : Value) (xs : List Int) (S : GrpSt W n0 G O v xs) (hl : xs.length + n + 2 ≤ 140737488355328),
    Calls Tryd.prog 43 #[.int .u64 n, .int .u8 mark, .pointer (some ⟨G, 0, none⟩), .pointer (some ⟨O, 0, none⟩)] W fun e W' => e = .returned (.tuple #[]) ∧ (∃ v', GrpSt W' n0 G O v' (xs ++ grpL n mark)) ∧ Below (min G O) W W' := by
  induction n using Nat.strongRecOn with
  | _ n ih =>
    intro mark hm hn W v xs S hl
    have hb1 : bits .or .u8 ((n : Int) % 128) (mark : Int) = ((n % 128 + mark : Nat) : Int) := by
      have := or_mark (n % 128) (by omega) mark hm
      rwa [show ((n % 128 : Nat) : Int) = (n : Int) % 128 from by omega] at this
    have HB1 := Lib.hid hb1
    clear hb1
    by_cases h : n < 128
    · rw [grpL_small h]
      have g1 : decide ((128 : Int) ≤ (n : Int)) = false := decide_eq_false (by omega)
      have g2 : decide (128 ≤ n) = false := decide_eq_false (by omega)
      have hc := S.o.cell
      have hf := S.o.frozen
      have HS := Lib.hid S
      have HL : Hid (xs.length + n + 2 ≤ 140737488355328) := hl
      have HO : Hid (W.ownsRow n0 5 1 v (nums .u8 xs).length (nums .u8 xs)) := by
        show W.ownsRow n0 _ 1 v _ _
        rw [nums_length]; exact S.r
      obtain ⟨A, c, rfl⟩ := own_slice S.r
      clear hl S h
      go_enter Tryd.func43, Tryd.ntmps43
      go_wp2_with (at_builtin; refine print_append (w0 := W) n0 rfl (.tmp 12) (.tmp 18) 30 5 (.int .u8 0) 1 rfl Tryd.underlying30 info_u8 rfl (by decide) _ (nums .u8 xs) _ rfl rfl rfl HO.out (Below.refl _ _) HS.out.sz ?hl ?_; (case hl => rw [nums_length]; have := HL.out; omega); intro v1 w1 ho hb hg _; have hc1 := (HS.out.o.kept hg (fun e => by have := own_base HS.out.r O e.symm; have := HS.out.hO; omega)).cell; have hf1 := (HS.out.o.kept hg (fun e => by have := own_base HS.out.r O e.symm; have := HS.out.hO; omega)).frozen; have Ho := Lib.hid ho; have Hb := Lib.hid hb; have Hg := Lib.hid hg; clear ho hb hg; obtain ⟨A1, c1, rfl⟩ := own_slice Ho.out)
      go_end0
      have Ho' := Ho.out
      rw [HB1.out, nums_one, nums_length] at Ho'
      simp only [nums_length, List.length_append, List.length_cons, List.length_nil, Nat.zero_add] at Ho' ⊢
      refine ⟨trivial, ⟨_, HS.out.put (by simpa using Ho') Hg.out⟩, ?_⟩
      exact (Hb.out.mono (by have := HS.out.hO; omega)).setCell (by simp; omega) _
    · rw [grpL_big h, ← List.append_assoc]
      have g1 : decide ((128 : Int) ≤ (n : Int)) = true := decide_eq_true (by omega)
      have g2 : decide (128 ≤ n) = true := decide_eq_true (by omega)
      have ih1 := ih (n / 128) (by omega) 128 (.inr rfl) (by omega) W v xs S (by omega)
      rw [show ((n / 128 : Nat) : Int) = (n : Int) / 128 from by omega, show ((128 : Nat) : Int) = 128 from rfl] at ih1
      have hgc := S.g.cell
      have HS := Lib.hid S
      have HL : Hid (xs.length + n + 2 ≤ 140737488355328) := hl
      have IH := Lib.hid ih1
      have H8 : Hid (128 ≤ n) := Nat.le_of_not_lt h
      clear hl h ih ih1 S
      go_enter Tryd.func43, Tryd.ntmps43
      go_wp2_with fail
      refine IH.out.mono ?_
      rintro e w2 ⟨rfl, ⟨v2, S2⟩, hB2⟩
      have HB2 := Lib.hid hB2
      have hL2 : (xs ++ grpL (n / 128) 128).length + 2 ≤ 140737488355328 := by
        have := HL.out
        have := H8.out
        have := grpL_len (n / 128) 128
        rw [List.length_append]
        omega
      obtain ⟨ys, hys⟩ : ∃ ys, ys = xs ++ grpL (n / 128) 128 := ⟨_, rfl⟩
      rw [← hys] at S2 hL2
      have HY := Lib.hid hys
      clear hys
      have hc := S2.o.cell
      have hf := S2.o.frozen
      have HS2 := Lib.hid S2
      have HL2 : Hid (ys.length + 2 ≤ 140737488355328) := hL2
      have HO : Hid (w2.ownsRow n0 5 1 v2 (nums .u8 ys).length (nums .u8 ys)) := by
        show w2.ownsRow n0 _ 1 v2 _ _
        rw [nums_length]; exact S2.r
      obtain ⟨A, c, rfl⟩ := own_slice S2.r
      clear hL2 S2 hB2 IH
      go_wp2_with (at_builtin; refine print_append (w0 := w2) n0 rfl (.tmp 12) (.tmp 18) 30 5 (.int .u8 0) 1 rfl Tryd.underlying30 info_u8 rfl (by decide) _ (nums .u8 ys) _ rfl rfl rfl HO.out (Below.refl _ _) HS2.out.sz ?hl ?_; (case hl => rw [nums_length]; have := HL2.out; omega); intro v1 w1 ho hb hg _; have hc1 := (HS2.out.o.kept hg (fun e => by have := own_base HS2.out.r O e.symm; have := HS2.out.hO; omega)).cell; have hf1 := (HS2.out.o.kept hg (fun e => by have := own_base HS2.out.r O e.symm; have := HS2.out.hO; omega)).frozen; have Ho := Lib.hid ho; have Hb := Lib.hid hb; have Hg := Lib.hid hg; clear ho hb hg; obtain ⟨A1, c1, rfl⟩ := own_slice Ho.out)
      go_end0
      have Ho' := Ho.out
      rw [HB1.out, nums_one, nums_length] at Ho'
      simp only [nums_length, List.length_append, List.length_cons, List.length_nil, Nat.zero_add] at Ho' ⊢
      rw [← HY.out]
      refine ⟨trivial, ⟨_, HS2.out.put (by simpa using Ho') Hg.out⟩, ?_⟩
      · have := HS2.out.hO
        exact (HB2.out.trans (Hb.out.mono (by omega))).setCell (by simp; omega) _

theorem GrpSt.moved {W W' : World} {n0 G O : Nat} {v : Value} {xs : List Int} (S : GrpSt W n0 G O v xs) (hb : Below W.heap.size W W') : GrpSt W' n0 G O v xs :=
  ⟨(hb.block G S.g.lt).trans S.g, (hb.block O S.o.lt).trans S.o, pw_own_below S.r hb, S.hO, S.hG, S.ne, Nat.le_trans S.sz hb.size⟩
theorem GrpSt.drew {W : World} {n0 G O : Nat} {v : Value} {xs : List Int} (S : GrpSt W n0 G O v xs) : GrpSt W.drew n0 G O v xs := S.moved (below_drew (Below.refl _ _))
/-- Where the function begins. -/
theorem GrpSt.start (w W : World) (hs : W.heap.size = w.heap.size) :
    GrpSt ((W.alloc (.cells #[.slice none 0 0] 30)).alloc (.cells #[.func (.func 43) #[] #[.pointer (some ⟨w.heap.size + 1, 0, none⟩), .pointer (some ⟨w.heap.size, 0, none⟩)]] 70)) (w.heap.size + 2) (w.heap.size + 1) w.heap.size (.slice none 0 0) [] := by
  refine ⟨?_, ?_, ?_, by omega, by omega, by omega, ?_⟩
  · have := Boxed.new (W.alloc (.cells #[.slice none 0 0] 30)) 70 (.func (.func 43) #[] #[.pointer (some ⟨w.heap.size + 1, 0, none⟩), .pointer (some ⟨w.heap.size, 0, none⟩)])
    simpa [hs] using this
  · have := (Boxed.new W 30 (.slice none 0 0)).alloc (.cells #[.func (.func 43) #[] #[.pointer (some ⟨w.heap.size + 1, 0, none⟩), .pointer (some ⟨w.heap.size, 0, none⟩)]] 70)
    simpa [hs] using this
  · exact own_nil _ _ _ _
  · simp [hs]
/-- The closure at a number that the walk spells in its own way. -/
theorem grp_at (n0 G O : Nat) (n : Int) (h0 : 0 ≤ n) (h1 : n < 1000000000000) (W : World) (v : Value) (xs : List Int) (S : GrpSt W n0 G O v xs) (hl : xs.length ≤ 100000000000000) :
    Calls Tryd.prog 43 #[.int .u64 n, .int .u8 0, .pointer (some ⟨G, 0, none⟩), .pointer (some ⟨O, 0, none⟩)] W fun e W' => e = .returned (.tuple #[]) ∧ (∃ v', GrpSt W' n0 G O v' (xs ++ grpL n.toNat 0)) ∧ Below (min G O) W W' := by
  obtain ⟨m, rfl⟩ := Int.eq_ofNat_of_zero_le h0
  exact grp_any n0 G O m 0 (.inl rfl) (by omega) W v xs S (by omega)

theorem content_len (l : List Int) (n k : Nat) (hn : n < 1000000000000) (hk : k ≤ 20) (h : ∀ x ∈ l, x < 4294967216) (hl : l.length ≤ 20) : (grpL n 0 ++ ((l.drop 2).take k).flatMap fun n => grpL n.toNat 0).length ≤ 100000000000000 := by
  have h1 := grpL_len n 0
  have h2 : ∀ ys : List Int, (∀ x ∈ ys, x < 4294967216) → (ys.flatMap fun n => grpL n.toNat 0).length ≤ ys.length * 4294967300 := by
    intro ys
    induction ys with
    | nil => intro _; simp
    | cons y ys ih =>
      intro hy
      have h3 := ih (fun x hx => hy x (by simp [hx]))
      have h4 := grpL_len y.toNat 0
      have h5 := hy y (by simp)
      rw [List.flatMap_cons, List.length_append, List.length_cons]
      omega
  have h3 := h2 ((l.drop 2).take k) (fun x hx => h x (List.mem_of_mem_drop (List.mem_of_mem_take hx)))
  have h4 : ((l.drop 2).take k).length ≤ 20 := by simp; omega
  rw [List.length_append]
  have h5 : ((l.drop 2).take k).length * 4294967300 ≤ 20 * 4294967300 := Nat.mul_le_mul_right _ h4
  omega
theorem content_no (A0 : Option Addr) (c0 : Nat) (l0 : List Int) (w : World) (hr0 : Kd.C (Kd.int .u32) w A0 l0.length l0) (hc0 : l0.length ≤ c0) (h : validB l0 = false) :
    Calls Tryd.prog 20 #[.slice A0 l0.length c0] w fun e w' => e = .returned (.slice none 0 0) ∧ Below w.heap.size w w' := by
  have hv := fun W (hW : Kd.C (Kd.int .u32) W A0 l0.length l0) => oid_Valid.calls A0 c0 l0 false W hW hc0 (by unfold oid_Valid.f; rw [h])
  have HR := Lib.hid hr0
  clear hr0 h
  go_enter Tryd.func20, Tryd.ntmps20
  go_wp2_with (go_at_call 36; refine (hv _ HR.out).mono ?_; rintro e w' ⟨rfl, ⟨nd, rfl⟩⟩)
  go_ret
  exact ⟨rfl, pw_below_drewN (Below.refl _ _) nd⟩

set_option maxHeartbeats 4000000 in
set_option maxRecDepth 100000 in
theorem content_yes (A0 : Option Addr) (c0 : Nat) (l0 : List Int) (w : World) (hr0 : Kd.C (Kd.int .u32) w A0 l0.length l0) (hc0 : l0.length ≤ c0) (hcc : c0 ≠ 2) (h : validB l0 = true) (hp : ∀ x ∈ l0, 0 ≤ x) :
    Calls Tryd.prog 20 #[.slice A0 l0.length c0] w fun e w' => ∃ v0_ : Value, e = .returned v0_ ∧ Kd.R (Kd.int .u8) 5 w' w.heap.size (fun _ => True) v0_ (contentL l0) ∧ Below w.heap.size w w' := by
  have hv := fun W (hW : Kd.C (Kd.int .u32) W A0 l0.length l0) => oid_Valid.calls A0 c0 l0 true W hW hc0 (by unfold oid_Valid.f; rw [h])
  obtain ⟨h1, h2, h3, h4, h5⟩ := valid_parts h
  obtain ⟨b, off, rfl, hl, hc⟩ := C_intsD hr0 (by omega)
  have x0 : w.cell? ⟨b, off, none⟩ = some (.int .u32 (l0.getD 0 0)) := hc 0 (by omega)
  have x1 : w.cell? ⟨b, off + 1, none⟩ = some (.int .u32 (l0.getD 1 0)) := hc 1 (by omega)
  have q0 : (0 < l0.length) = True := eq_true (by omega)
  have q1 : (1 < l0.length) = True := eq_true (by omega)
  have hq2 : 2 ≤ l0.length := h1
  have hq2c : 2 < c0 := by omega
  have q0' : (0 < (l0.length : Int)) = True := eq_true (by omega)
  have q1' : (1 < (l0.length : Int)) = True := eq_true (by omega)
  have HR := Lib.hid hr0
  have H1 : Hid (2 ≤ l0.length ∧ l0.length ≤ 20) := ⟨h1, h2⟩
  have HC := Lib.hid hc
  obtain ⟨a, ea⟩ : ∃ a, a = l0.getD 0 0 := ⟨_, rfl⟩
  obtain ⟨b1, eb⟩ : ∃ b1, b1 = l0.getD 1 0 := ⟨_, rfl⟩
  have ha0 : 0 ≤ a := by rw [ea, List.getD_eq_getElem?_getD, List.getElem?_eq_getElem (by omega)]; exact hp _ (List.getElem_mem _)
  have hb0 : 0 ≤ b1 := by rw [eb, List.getD_eq_getElem?_getD, List.getElem?_eq_getElem (by omega)]; exact hp _ (List.getElem_mem _)
  have hb9 : b1 < 4294967216 := by rw [eb, List.getD_eq_getElem?_getD, List.getElem?_eq_getElem (by omega)]; exact h5 _ (List.getElem_mem _)
  have ha2 : a ≤ 2 := by omega
  rw [← ea] at x0
  rw [← eb] at x1
  have EA := Lib.hid ea
  have EB := Lib.hid eb
  have HP := Lib.hid hp
  have H5 := Lib.hid h5
  clear ea eb hr0 h h1 h2 h3 h4 h5 hc hp
  go_enter Tryd.func20, Tryd.ntmps20
  go_wp2_with (go_at_call 36; refine (hv _ HR.out).mono ?_; rintro e w' ⟨rfl, ⟨nd, rfl⟩⟩)
  have S6 := GrpSt.start w (w.drewN nd) rfl
  have HB6 : Below w.heap.size w (((w.drewN nd).alloc (.cells #[.slice none 0 0] 30)).alloc (.cells #[.func (.func 43) #[] #[.pointer (some ⟨w.heap.size + 1, 0, none⟩), .pointer (some ⟨w.heap.size, 0, none⟩)]] 70)) :=
    below_alloc (below_alloc (pw_below_drewN (Below.refl _ _) nd) _) _
  generalize ((w.drewN nd).alloc (.cells #[.slice none 0 0] 30)).alloc (.cells #[.func (.func 43) #[] #[.pointer (some ⟨w.heap.size + 1, 0, none⟩), .pointer (some ⟨w.heap.size, 0, none⟩)]] 70) = W6 at *
  have y0 := pw_cell_below HB6 x0
  have y1 := pw_cell_below HB6 x1
  have yg := S6.g.cell
  clear x0 x1 hv
  have HS6 := Lib.hid S6
  have HBB := Lib.hid HB6
  clear S6 HB6
  have w1 : IntKind.u64.wrap a = a := u64_in _ ha0 (by omega)
  have w2 : IntKind.u64.wrap b1 = b1 := u64_in _ hb0 (by omega)
  have w3 : IntKind.u64.wrap (40 * a) = 40 * a := u64_in _ (by omega) (by omega)
  have w4 : IntKind.u64.wrap (40 * a + b1) = 40 * a + b1 := u64_in _ (by omega) (by omega)
  go_still_tail 11, (by kernel_rfl)
  change wpList _ _ _ _ _ W6.drew
  have HG := Lib.hid (fun W v xs S hl => grp_at (w.heap.size + 2) (w.heap.size + 1) w.heap.size (40 * a + b1) (by omega) (by omega) W v xs S hl)
  clear w1 w2 w3 w4 y0 y1 yg
  go_wp2_with (go_at_call 43; refine (HG.out _ _ _ HS6.out.drew (by simp)).mono ?_; rintro e w7 ⟨rfl, ⟨v7, S7⟩, hB7⟩; have HS7 := Lib.hid S7; have HB7 := Lib.hid hB7; clear S7 hB7)
  go_loopw [26] (fun i wr => ∃ k : Nat, k ≤ l0.length - 2 ∧ i = .int .i64 k ∧ Hid (∃ v, GrpSt wr (w.heap.size + 2) (w.heap.size + 1) w.heap.size v (grpL (40 * a + b1).toNat 0 ++ ((l0.drop 2).take k).flatMap fun n => grpL n.toNat 0)) ∧ Hid (Below w.heap.size w wr)) (fun i _ => l0.length - 2 - (intOf i).toNat)
  case atStart => exact ⟨0, Nat.zero_le _, rfl, ⟨v7, by simpa using HS7.out⟩, (HBB.out.drew.trans (HB7.out.mono (by omega)))⟩
  case round =>
    clear HS7 HB7 HS6 HBB
    obtain ⟨k, hk, rfl, HS, HB⟩ := hrel
    obtain ⟨v8, S8⟩ := HS.out
    by_cases hlt : k < l0.length - 2
    · have hg1 := S8.g.cell
      have hx : wr.cell? ⟨b, off + 2 + k, none⟩ = some (.int .u32 (l0.getD (2 + k) 0)) := by
        have := HC.out (2 + k) (by omega)
        rw [← Nat.add_assoc] at this
        exact pw_cell_below HB.out this
      obtain ⟨x, ex⟩ : ∃ x, x = l0.getD (2 + k) 0 := ⟨_, rfl⟩
      have hm : l0.getD (2 + k) 0 ∈ l0 := by rw [List.getD_eq_getElem?_getD, List.getElem?_eq_getElem (by omega)]; exact List.getElem_mem _
      have hx0 : 0 ≤ x := by rw [ex]; exact HP.out _ hm
      have hx9 : x < 4294967216 := by rw [ex]; exact H5.out _ hm
      rw [← ex] at hx
      have EX := Lib.hid ex
      have HS8 := Lib.hid S8
      have wx : IntKind.u64.wrap x = x := u64_in _ hx0 (by omega)
      have hL : Hid ((grpL (40 * a + b1).toNat 0 ++ ((l0.drop 2).take k).flatMap fun n => grpL n.toNat 0).length ≤ 100000000000000) := content_len l0 (40 * a + b1).toNat k (by omega) (by have := H1.out; omega) H5.out H1.out.2
      clear ex hm S8
      obtain ⟨wo, hwo⟩ : ∃ wo : World, wo = wr := ⟨_, rfl⟩
      rw [← hwo] at hg1 hx HS8 HB ⊢
      clear hwo HS
      go_wp2_with (go_at_call 43; refine (grp_at (w.heap.size + 2) (w.heap.size + 1) w.heap.size x hx0 (by omega) _ _ _ HS8.out hL.out).mono ?_; rintro e w9 ⟨rfl, ⟨v9, S9⟩, hB9⟩; have HS9 := Lib.hid S9; have HB9 := Lib.hid hB9; clear S9 hB9)
      go_roundw
      case rel =>
        refine ⟨k + 1, by omega, by go_num, ⟨v9, ?_⟩, HB.out.trans (HB9.out.mono (by omega))⟩
        have := HS9.out
        rw [EX.out] at this
        have e2 : (l0.drop 2).take (k + 1) = (l0.drop 2).take k ++ [l0.getD (2 + k) 0] := by
          rw [List.take_succ_eq_append_getElem (by simp; omega)]
          simp [List.getD_eq_getElem?_getD, List.getElem?_eq_getElem (show 2 + k < l0.length by omega)]
        rw [e2, List.flatMap_append, ← List.append_assoc]
        simpa using this
      case measure => simp [intOf]; omega
    · have hk2 : k = l0.length - 2 := by omega
      subst hk2
      have e3 : grpL (40 * a + b1).toNat 0 ++ ((l0.drop 2).take (l0.length - 2)).flatMap (fun n => grpL n.toNat 0) = contentL l0 := by
        unfold contentL
        rw [← EA.out, ← EB.out, List.take_of_length_le (by simp), show (40 * a + b1).toNat = 40 * a.toNat + b1.toNat by omega]
      rw [e3] at S8
      have ho1 := S8.o.cell
      have HS8 := Lib.hid S8
      clear S8 hlt hk e3
      obtain ⟨A8, c8, rfl⟩ := own_slice HS8.out.r
      go_wp2
      go_ret
      have h8 := HS8.out.r
      refine ⟨_, rfl, ?_, HB.out⟩
      exact Kd.R_of_own (enc := Value.int .u8) (h1 := fun _ => rfl) (own_weaken h8 (Nat.le_add_right _ 2)) (fun _ _ => trivial)

set_option maxHeartbeats 4000000 in
set_option maxRecDepth 100000 in
theorem content_two (A0 : Option Addr) (c0 : Nat) (l0 : List Int) (w : World) (hr0 : Kd.C (Kd.int .u32) w A0 l0.length l0) (hc0 : l0.length ≤ c0) (hcc : c0 = 2) (h : validB l0 = true) (hp : ∀ x ∈ l0, 0 ≤ x) :
    Calls Tryd.prog 20 #[.slice A0 l0.length c0] w fun e w' => ∃ v0_ : Value, e = .returned v0_ ∧ Kd.R (Kd.int .u8) 5 w' w.heap.size (fun _ => True) v0_ (contentL l0) ∧ Below w.heap.size w w' := by
  have hv := fun W (hW : Kd.C (Kd.int .u32) W A0 l0.length l0) => oid_Valid.calls A0 c0 l0 true W hW hc0 (by unfold oid_Valid.f; rw [h])
  obtain ⟨h1, h2, h3, h4, h5⟩ := valid_parts h
  obtain ⟨b, off, rfl, hl, hc⟩ := C_intsD hr0 (by omega)
  have x0 : w.cell? ⟨b, off, none⟩ = some (.int .u32 (l0.getD 0 0)) := hc 0 (by omega)
  have x1 : w.cell? ⟨b, off + 1, none⟩ = some (.int .u32 (l0.getD 1 0)) := hc 1 (by omega)
  have q0 : (0 < l0.length) = True := eq_true (by omega)
  have q1 : (1 < l0.length) = True := eq_true (by omega)
  have hq2 : 2 ≤ l0.length := h1
  subst hcc
  have q0' : (0 < (l0.length : Int)) = True := eq_true (by omega)
  have q1' : (1 < (l0.length : Int)) = True := eq_true (by omega)
  have HR := Lib.hid hr0
  have H1 : Hid (2 ≤ l0.length ∧ l0.length ≤ 20) := ⟨h1, h2⟩
  have HC := Lib.hid hc
  obtain ⟨a, ea⟩ : ∃ a, a = l0.getD 0 0 := ⟨_, rfl⟩
  obtain ⟨b1, eb⟩ : ∃ b1, b1 = l0.getD 1 0 := ⟨_, rfl⟩
  have ha0 : 0 ≤ a := by rw [ea, List.getD_eq_getElem?_getD, List.getElem?_eq_getElem (by omega)]; exact hp _ (List.getElem_mem _)
  have hb0 : 0 ≤ b1 := by rw [eb, List.getD_eq_getElem?_getD, List.getElem?_eq_getElem (by omega)]; exact hp _ (List.getElem_mem _)
  have hb9 : b1 < 4294967216 := by rw [eb, List.getD_eq_getElem?_getD, List.getElem?_eq_getElem (by omega)]; exact h5 _ (List.getElem_mem _)
  have ha2 : a ≤ 2 := by omega
  rw [← ea] at x0
  rw [← eb] at x1
  have EA := Lib.hid ea
  have EB := Lib.hid eb
  have HP := Lib.hid hp
  have H5 := Lib.hid h5
  clear ea eb hr0 h h1 h2 h3 h4 h5 hc hp
  go_enter Tryd.func20, Tryd.ntmps20
  go_wp2_with (go_at_call 36; refine (hv _ HR.out).mono ?_; rintro e w' ⟨rfl, ⟨nd, rfl⟩⟩)
  have S6 := GrpSt.start w (w.drewN nd) rfl
  have HB6 : Below w.heap.size w (((w.drewN nd).alloc (.cells #[.slice none 0 0] 30)).alloc (.cells #[.func (.func 43) #[] #[.pointer (some ⟨w.heap.size + 1, 0, none⟩), .pointer (some ⟨w.heap.size, 0, none⟩)]] 70)) :=
    below_alloc (below_alloc (pw_below_drewN (Below.refl _ _) nd) _) _
  generalize ((w.drewN nd).alloc (.cells #[.slice none 0 0] 30)).alloc (.cells #[.func (.func 43) #[] #[.pointer (some ⟨w.heap.size + 1, 0, none⟩), .pointer (some ⟨w.heap.size, 0, none⟩)]] 70) = W6 at *
  have y0 := pw_cell_below HB6 x0
  have y1 := pw_cell_below HB6 x1
  have yg := S6.g.cell
  clear x0 x1 hv
  have HS6 := Lib.hid S6
  have HBB := Lib.hid HB6
  clear S6 HB6
  have w1 : IntKind.u64.wrap a = a := u64_in _ ha0 (by omega)
  have w2 : IntKind.u64.wrap b1 = b1 := u64_in _ hb0 (by omega)
  have w3 : IntKind.u64.wrap (40 * a) = 40 * a := u64_in _ (by omega) (by omega)
  have w4 : IntKind.u64.wrap (40 * a + b1) = 40 * a + b1 := u64_in _ (by omega) (by omega)
  go_still_tail 11, (by kernel_rfl)
  change wpList _ _ _ _ _ W6.drew
  have HG := Lib.hid (fun W v xs S hl => grp_at (w.heap.size + 2) (w.heap.size + 1) w.heap.size (40 * a + b1) (by omega) (by omega) W v xs S hl)
  clear w1 w2 w3 w4 y0 y1 yg
  go_wp2_with (go_at_call 43; refine (HG.out _ _ _ HS6.out.drew (by simp)).mono ?_; rintro e w7 ⟨rfl, ⟨v7, S7⟩, hB7⟩; have HS7 := Lib.hid S7; have HB7 := Lib.hid hB7; clear S7 hB7)
  go_loopw [26] (fun i wr => ∃ k : Nat, k ≤ l0.length - 2 ∧ i = .int .i64 k ∧ Hid (∃ v, GrpSt wr (w.heap.size + 2) (w.heap.size + 1) w.heap.size v (grpL (40 * a + b1).toNat 0 ++ ((l0.drop 2).take k).flatMap fun n => grpL n.toNat 0)) ∧ Hid (Below w.heap.size w wr)) (fun i _ => l0.length - 2 - (intOf i).toNat)
  case atStart => exact ⟨0, Nat.zero_le _, rfl, ⟨v7, by simpa using HS7.out⟩, (HBB.out.drew.trans (HB7.out.mono (by omega)))⟩
  case round =>
    clear HS7 HB7 HS6 HBB
    obtain ⟨k, hk, rfl, HS, HB⟩ := hrel
    obtain ⟨v8, S8⟩ := HS.out
    by_cases hlt : k < l0.length - 2
    · exact absurd hlt (by omega)
    · have hk2 : k = l0.length - 2 := by omega
      subst hk2
      have e3 : grpL (40 * a + b1).toNat 0 ++ ((l0.drop 2).take (l0.length - 2)).flatMap (fun n => grpL n.toNat 0) = contentL l0 := by
        unfold contentL
        rw [← EA.out, ← EB.out, List.take_of_length_le (by simp), show (40 * a + b1).toNat = 40 * a.toNat + b1.toNat by omega]
      rw [e3] at S8
      have ho1 := S8.o.cell
      have HS8 := Lib.hid S8
      clear S8 hlt hk e3
      obtain ⟨A8, c8, rfl⟩ := own_slice HS8.out.r
      go_wp2
      go_ret
      have h8 := HS8.out.r
      refine ⟨_, rfl, ?_, HB.out⟩
      exact Kd.R_of_own (enc := Value.int .u8) (h1 := fun _ => rfl) (own_weaken h8 (Nat.le_add_right _ 2)) (fun _ _ => trivial)

theorem oid_Content.calls (A0 : Option Addr) (c0 : Nat) (l0 : List Int) (r : List Int) (w : World) (hr0 : Kd.C (Kd.int .u32) w A0 l0.length l0) (hc0 : l0.length ≤ c0) (h : oid_Content.f l0 = some r) :
    Calls Tryd.prog 20 #[.slice A0 l0.length c0] w fun e w' => ∃ v0_ : Value, e = .returned (v0_) ∧ Kd.R (Kd.int .u8) 5 w' w.heap.size (fun _ => True) v0_ r ∧ Below w.heap.size w w' := by
  unfold oid_Content.f at h
  by_cases hp : (l0.all fun x => decide (0 ≤ x)) = true
  · rw [if_pos hp] at h
    obtain rfl := Option.some.inj h
    have hp' : ∀ x ∈ l0, 0 ≤ x := fun x hx => by simpa using List.all_eq_true.1 hp x hx
    by_cases hv : validB l0 = true
    · rw [if_pos hv]
      by_cases hc : c0 = 2
      · exact content_two A0 c0 l0 w hr0 hc0 hc hv hp'
      · exact content_yes A0 c0 l0 w hr0 hc0 hc hv hp'
    · rw [if_neg hv]
      refine (content_no A0 c0 l0 w hr0 hc0 (Bool.eq_false_iff.2 hv)).mono ?_
      rintro e w' ⟨rfl, hb⟩
      exact ⟨_, rfl, Kd.R_nil _ _ _ _ _, hb⟩
  · rw [if_neg hp] at h
    cases h

end Go.Proofs.YtjoncjnmhhimhaaDoor.Hand
