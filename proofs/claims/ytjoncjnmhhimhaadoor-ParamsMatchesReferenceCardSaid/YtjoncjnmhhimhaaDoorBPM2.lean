/- Texts of one proof, one behind the other. -/
import Derived.Test.YtjoncjnmhhimhaaDoorBPM0
import Derived.RangeFuncNested
import Derived.RangeFuncBox
import Derived.WalkSpells
import Derived.Laws.EntriesVeiled
import Derived.StillTailTactics
import Derived.Test.YtjoncjnmhhimhaaDoorBPM1
import Derived.Test.YtjoncjnmhhimhaaDoorProg
import Derived.Below
import Derived.Deep.Draws
import Derived.Deep.AppendLies
import Derived.Maps.AppendAt
import Derived.OwnWalk
import Derived.Laws.BytesArg
import Derived.Laws.MakeOwn
import Derived.Laws.OwnMore
import Derived.Deep.OwnRows
import Derived.Tactics
import Derived.Lib.ConvBytes
import Derived.Laws.Slices
import Derived.WalkKit
import Derived.KernelRfl
import Derived.RowKit3
import Derived.Deep.LoopGhost
import Derived.Deep.QuietTactic
import Derived.BigQuiet
import Derived.WideLaws
import Derived.Deep.DeepCutAuto
import Derived.Deep.CutBlock
import Derived.Deep.RegionHeld3
import Derived.Laws.Rows
import Derived.Lib.AppendStr
import Derived.ArgAppend
import Derived.Laws.IdiomCopy
import Derived.OrdersHeld
import Derived.Laws.BitsLemmas
import Derived.RowKit
import Derived.Test.YtjoncjnmhhimhaaDoorWMore
import Derived.Test.YtjoncjnmhhimhaaDoorWGuard
import Derived.Test.YtjoncjnmhhimhaaDoorWRepsOne
import Derived.Test.YtjoncjnmhhimhaaDoorWTab
import Derived.Calls
import Derived.Test.YtjoncjnmhhimhaaDoorWLast
section
/- oid.Content: the closure that lays the group of a number behind the bytes that are there, and the function that calls it for each number. -/
namespace Go.Proofs.YtjoncjnmhhimhaaDoor.Hand
set_option linter.unusedVariables false
set_option linter.unusedSimpArgs false
open Go.RowKit Go.Proofs.YtjoncjnmhhimhaaDoorW.PrintWords Go.Proofs.YtjoncjnmhhimhaaDoorW.PrintLast Go.Proofs.YtjoncjnmhhimhaaDoorW.PrintMore
open Go.Proofs.YtjoncjnmhhimhaaDoor.Oid

theorem grpL_small {n m : Nat} (h : n < 128) : grpL n m = [((n % 128 + m : Nat) : Int)] := by rw [grpL, dif_pos h]
theorem grpL_big {n m : Nat} (h : ¬ n < 128) : grpL n m = grpL (n / 128) 128 ++ [((n % 128 + m : Nat) : Int)] := by rw [grpL, dif_neg h]
theorem grpL_len (n : Nat) : ∀ m, (grpL n m).length ≤ n + 1 := by
  induction n using Nat.strongRecOn with
  | _ n ih =>
    intro m
    by_cases h : n < 128
    · rw [grpL_small h]; simp
    · rw [grpL_big h]
      have := ih (n / 128) (by omega) 128
      simp only [List.length_append, List.length_cons, List.length_nil]
      omega
theorem or_mark (x : Nat) (hx : x < 128) (m : Nat) (hm : m = 0 ∨ m = 128) : Go.bits .or .u8 (x : Int) (m : Int) = ((x + m : Nat) : Int) := by
  rcases hm with rfl | rfl
  · have : ∀ x : Fin 128, Go.bits .or .u8 ((x.val : Nat) : Int) ((0 : Nat) : Int) = ((x.val + 0 : Nat) : Int) := by decide +kernel
    exact this ⟨x, hx⟩
  · have : ∀ x : Fin 128, Go.bits .or .u8 ((x.val : Nat) : Int) ((128 : Nat) : Int) = ((x.val + 128 : Nat) : Int) := by decide +kernel
    exact this ⟨x, hx⟩
theorem info_u8 : (Tryd.prog.info? 5).map (fun i => (i.zero, i.size, i.bytes)) = some (some (.int .u8 0), 1, 1) := by kernel_rfl

/-- The two boxes and the bytes that are laid. -/
structure GrpSt (W : World) (n0 G O : Nat) (v : Value) (xs : List Int) : Prop where
  g : Boxed W G 70 (.func (.func 43) #[] #[.pointer (some ⟨G, 0, none⟩), .pointer (some ⟨O, 0, none⟩)])
  o : Boxed W O 30 v
  r : W.ownsRow n0 5 1 v xs.length (nums .u8 xs)
  hO : O < n0
  hG : G < n0
  ne : G ≠ O
  sz : n0 ≤ W.heap.size

theorem nums_one (xs : List Int) (y : Int) : nums .u8 xs ++ [Value.int .u8 y] = nums .u8 (xs ++ [y]) := by simp [nums]
/-- A byte more, and the box says so. -/
theorem GrpSt.put {W w1 : World} {n0 G O : Nat} {v v1 : Value} {xs : List Int} {y : Int} (S : GrpSt W n0 G O v xs) (ho : w1.ownsRow n0 5 1 v1 (xs ++ [y]).length (nums .u8 (xs ++ [y]))) (hg : W.grownBy w1 v.ownBlock) :
    GrpSt (w1.setCell ⟨O, 0, none⟩ v1) n0 G O v1 (xs ++ [y]) := by
  have hG := S.hG
  have hO := S.hO
  have nG : some G ≠ v.ownBlock := fun e => by have := own_base S.r G e.symm; omega
  have nO : some O ≠ v.ownBlock := fun e => by have := own_base S.r O e.symm; omega
  have h1 := S.g.kept hg nG
  have h2 := S.o.kept hg nO
  refine ⟨h1.other S.ne v1, h2.set v1, ?_, hO, hG, S.ne, ?_⟩
  · exact ho.kept (grownBy_setCell' w1 O v1) (.inr fun e => by have := own_base ho O e; omega)
  · have := hg.size
    have := S.sz
    simp [World.setCell]
    omega

set_option maxHeartbeats 2000000 in
theorem grp_any (n0 G O : Nat) (n : Nat) : ∀ (mark : Nat) (hm : mark = 0 ∨ mark = 128) (hn : n < 18446744073709551616) (W : World) (v : Value) (xs : List Int) (S : GrpSt W n0 G O v xs) (hl : xs.length + n + 2 ≤ 140737488355328),
    Calls Tryd.prog 43 #[.int .u64 n, .int .u8 mark, .pointer (some ⟨G, 0, none⟩), .pointer (some ⟨O, 0, none⟩)] W fun e W' => e = .returned (.tuple #[]) ∧ (∃ v', GrpSt W' n0 G O v' (xs ++ grpL n mark)) ∧ Below (min G O) W W' := by
  induction n using Nat.strongRecOn with
  | _ n ih =>
    intro mark hm hn W v xs S hl
    have hb1 : bits .or .u8 ((n : Int) % 128) (mark : Int) = ((n % 128 + mark : Nat) : Int) := by
      have := or_mark (n % 128) (by omega) mark hm
      rwa [show ((n % 128 : Nat) : Int) = (n : Int) % 128 from by omega] at this
    have HB1 := Lib.hid hb1
    clear hb1
    by_cases h : n < 128
    · rw [grpL_small h]
      have g1 : decide ((128 : Int) ≤ (n : Int)) = false := decide_eq_false (by omega)
      have g2 : decide (128 ≤ n) = false := decide_eq_false (by omega)
      have hc := S.o.cell
      have hf := S.o.frozen
      have HS := Lib.hid S
      have HL : Hid (xs.length + n + 2 ≤ 140737488355328) := hl
      have HO : Hid (W.ownsRow n0 5 1 v (nums .u8 xs).length (nums .u8 xs)) := by
        show W.ownsRow n0 _ 1 v _ _
        rw [nums_length]; exact S.r
      obtain ⟨A, c, rfl⟩ := own_slice S.r
      clear hl S h
      go_enter Tryd.func43, Tryd.ntmps43
      go_wp2_with (at_builtin; refine print_append (w0 := W) n0 rfl (.tmp 12) (.tmp 18) 30 5 (.int .u8 0) 1 rfl Tryd.underlying30 info_u8 rfl (by decide) _ (nums .u8 xs) _ rfl rfl rfl HO.out (Below.refl _ _) HS.out.sz ?hl ?_; (case hl => rw [nums_length]; have := HL.out; omega); intro v1 w1 ho hb hg _; have hc1 := (HS.out.o.kept hg (fun e => by have := own_base HS.out.r O e.symm; have := HS.out.hO; omega)).cell; have hf1 := (HS.out.o.kept hg (fun e => by have := own_base HS.out.r O e.symm; have := HS.out.hO; omega)).frozen; have Ho := Lib.hid ho; have Hb := Lib.hid hb; have Hg := Lib.hid hg; clear ho hb hg; obtain ⟨A1, c1, rfl⟩ := own_slice Ho.out)
      go_end0
      have Ho' := Ho.out
      rw [HB1.out, nums_one, nums_length] at Ho'
      simp only [nums_length, List.length_append, List.length_cons, List.length_nil, Nat.zero_add] at Ho' ⊢
      refine ⟨trivial, ⟨_, HS.out.put (by simpa using Ho') Hg.out⟩, ?_⟩
      exact (Hb.out.mono (by have := HS.out.hO; omega)).setCell (by simp; omega) _
    · rw [grpL_big h, ← List.append_assoc]
      have g1 : decide ((128 : Int) ≤ (n : Int)) = true := decide_eq_true (by omega)
      have g2 : decide (128 ≤ n) = true := decide_eq_true (by omega)
      have ih1 := ih (n / 128) (by omega) 128 (.inr rfl) (by omega) W v xs S (by omega)
      rw [show ((n / 128 : Nat) : Int) = (n : Int) / 128 from by omega, show ((128 : Nat) : Int) = 128 from rfl] at ih1
      have hgc := S.g.cell
      have HS := Lib.hid S
      have HL : Hid (xs.length + n + 2 ≤ 140737488355328) := hl
      have IH := Lib.hid ih1
      have H8 : Hid (128 ≤ n) := Nat.le_of_not_lt h
      clear hl h ih ih1 S
      go_enter Tryd.func43, Tryd.ntmps43
      go_wp2_with fail
      refine IH.out.mono ?_
      rintro e w2 ⟨rfl, ⟨v2, S2⟩, hB2⟩
      have HB2 := Lib.hid hB2
      have hL2 : (xs ++ grpL (n / 128) 128).length + 2 ≤ 140737488355328 := by
        have := HL.out
        have := H8.out
        have := grpL_len (n / 128) 128
        rw [List.length_append]
        omega
      obtain ⟨ys, hys⟩ : ∃ ys, ys = xs ++ grpL (n / 128) 128 := ⟨_, rfl⟩
      rw [← hys] at S2 hL2
      have HY := Lib.hid hys
      clear hys
      have hc := S2.o.cell
      have hf := S2.o.frozen
      have HS2 := Lib.hid S2
      have HL2 : Hid (ys.length + 2 ≤ 140737488355328) := hL2
      have HO : Hid (w2.ownsRow n0 5 1 v2 (nums .u8 ys).length (nums .u8 ys)) := by
        show w2.ownsRow n0 _ 1 v2 _ _
        rw [nums_length]; exact S2.r
      obtain ⟨A, c, rfl⟩ := own_slice S2.r
      clear hL2 S2 hB2 IH
      go_wp2_with (at_builtin; refine print_append (w0 := w2) n0 rfl (.tmp 12) (.tmp 18) 30 5 (.int .u8 0) 1 rfl Tryd.underlying30 info_u8 rfl (by decide) _ (nums .u8 ys) _ rfl rfl rfl HO.out (Below.refl _ _) HS2.out.sz ?hl ?_; (case hl => rw [nums_length]; have := HL2.out; omega); intro v1 w1 ho hb hg _; have hc1 := (HS2.out.o.kept hg (fun e => by have := own_base HS2.out.r O e.symm; have := HS2.out.hO; omega)).cell; have hf1 := (HS2.out.o.kept hg (fun e => by have := own_base HS2.out.r O e.symm; have := HS2.out.hO; omega)).frozen; have Ho := Lib.hid ho; have Hb := Lib.hid hb; have Hg := Lib.hid hg; clear ho hb hg; obtain ⟨A1, c1, rfl⟩ := own_slice Ho.out)
      go_end0
      have Ho' := Ho.out
      rw [HB1.out, nums_one, nums_length] at Ho'
      simp only [nums_length, List.length_append, List.length_cons, List.length_nil, Nat.zero_add] at Ho' ⊢
      rw [← HY.out]
      refine ⟨trivial, ⟨_, HS2.out.put (by simpa using Ho') Hg.out⟩, ?_⟩
      · have := HS2.out.hO
        exact (HB2.out.trans (Hb.out.mono (by omega))).setCell (by simp; omega) _

theorem GrpSt.moved {W W' : World} {n0 G O : Nat} {v : Value} {xs : List Int} (S : GrpSt W n0 G O v xs) (hb : Below W.heap.size W W') : GrpSt W' n0 G O v xs :=
  ⟨(hb.block G S.g.lt).trans S.g, (hb.block O S.o.lt).trans S.o, pw_own_below S.r hb, S.hO, S.hG, S.ne, Nat.le_trans S.sz hb.size⟩
theorem GrpSt.drew {W : World} {n0 G O : Nat} {v : Value} {xs : List Int} (S : GrpSt W n0 G O v xs) : GrpSt W.drew n0 G O v xs := S.moved (below_drew (Below.refl _ _))
/-- Where the function begins. -/
theorem GrpSt.start (w W : World) (hs : W.heap.size = w.heap.size) :
    GrpSt ((W.alloc (.cells #[.slice none 0 0] 30)).alloc (.cells #[.func (.func 43) #[] #[.pointer (some ⟨w.heap.size + 1, 0, none⟩), .pointer (some ⟨w.heap.size, 0, none⟩)]] 70)) (w.heap.size + 2) (w.heap.size + 1) w.heap.size (.slice none 0 0) [] := by
  refine ⟨?_, ?_, ?_, by omega, by omega, by omega, ?_⟩
  · have := Boxed.new (W.alloc (.cells #[.slice none 0 0] 30)) 70 (.func (.func 43) #[] #[.pointer (some ⟨w.heap.size + 1, 0, none⟩), .pointer (some ⟨w.heap.size, 0, none⟩)])
    simpa [hs] using this
  · have := (Boxed.new W 30 (.slice none 0 0)).alloc (.cells #[.func (.func 43) #[] #[.pointer (some ⟨w.heap.size + 1, 0, none⟩), .pointer (some ⟨w.heap.size, 0, none⟩)]] 70)
    simpa [hs] using this
  · exact own_nil _ _ _ _
  · simp [hs]
/-- The closure at a number that the walk spells in its own way. -/
theorem grp_at (n0 G O : Nat) (n : Int) (h0 : 0 ≤ n) (h1 : n < 1000000000000) (W : World) (v : Value) (xs : List Int) (S : GrpSt W n0 G O v xs) (hl : xs.length ≤ 100000000000000) :
    Calls Tryd.prog 43 #[.int .u64 n, .int .u8 0, .pointer (some ⟨G, 0, none⟩), .pointer (some ⟨O, 0, none⟩)] W fun e W' => e = .returned (.tuple #[]) ∧ (∃ v', GrpSt W' n0 G O v' (xs ++ grpL n.toNat 0)) ∧ Below (min G O) W W' := by
  obtain ⟨m, rfl⟩ := Int.eq_ofNat_of_zero_le h0
  exact grp_any n0 G O m 0 (.inl rfl) (by omega) W v xs S (by omega)

theorem content_len (l : List Int) (n k : Nat) (hn : n < 1000000000000) (hk : k ≤ 20) (h : ∀ x ∈ l, x < 4294967216) (hl : l.length ≤ 20) : (grpL n 0 ++ ((l.drop 2).take k).flatMap fun n => grpL n.toNat 0).length ≤ 100000000000000 := by
  have h1 := grpL_len n 0
  have h2 : ∀ ys : List Int, (∀ x ∈ ys, x < 4294967216) → (ys.flatMap fun n => grpL n.toNat 0).length ≤ ys.length * 4294967300 := by
    intro ys
    induction ys with
    | nil => intro _; simp
    | cons y ys ih =>
      intro hy
      have h3 := ih (fun x hx => hy x (by simp [hx]))
      have h4 := grpL_len y.toNat 0
      have h5 := hy y (by simp)
      rw [List.flatMap_cons, List.length_append, List.length_cons]
      omega
  have h3 := h2 ((l.drop 2).take k) (fun x hx => h x (List.mem_of_mem_drop (List.mem_of_mem_take hx)))
  have h4 : ((l.drop 2).take k).length ≤ 20 := by simp; omega
  rw [List.length_append]
  have h5 : ((l.drop 2).take k).length * 4294967300 ≤ 20 * 4294967300 := Nat.mul_le_mul_right _ h4
  omega
theorem content_no (A0 : Option Addr) (c0 : Nat) (l0 : List Int) (w : World) (hr0 : Kd.C (Kd.int .u32) w A0 l0.length l0) (hc0 : l0.length ≤ c0) (h : validB l0 = false) :
    Calls Tryd.prog 20 #[.slice A0 l0.length c0] w fun e w' => e = .returned (.slice none 0 0) ∧ Below w.heap.size w w' := by
  have hv := fun W (hW : Kd.C (Kd.int .u32) W A0 l0.length l0) => oid_Valid.calls A0 c0 l0 false W hW hc0 (by unfold oid_Valid.f; rw [h])
  have HR := Lib.hid hr0
  clear hr0 h
  go_enter Tryd.func20, Tryd.ntmps20
  go_wp2_with (go_at_call 36; refine (hv _ HR.out).mono ?_; rintro e w' ⟨rfl, ⟨nd, rfl⟩⟩)
  go_ret
  exact ⟨rfl, pw_below_drewN (Below.refl _ _) nd⟩

set_option maxHeartbeats 4000000 in
set_option maxRecDepth 100000 in
theorem content_yes (A0 : Option Addr) (c0 : Nat) (l0 : List Int) (w : World) (hr0 : Kd.C (Kd.int .u32) w A0 l0.length l0) (hc0 : l0.length ≤ c0) (hcc : c0 ≠ 2) (h : validB l0 = true) (hp : ∀ x ∈ l0, 0 ≤ x) :
    Calls Tryd.prog 20 #[.slice A0 l0.length c0] w fun e w' => ∃ v0_ : Value, e = .returned v0_ ∧ Kd.R (Kd.int .u8) 5 w' w.heap.size (fun _ => True) v0_ (contentL l0) ∧ Below w.heap.size w w' := by
  have hv := fun W (hW : Kd.C (Kd.int .u32) W A0 l0.length l0) => oid_Valid.calls A0 c0 l0 true W hW hc0 (by unfold oid_Valid.f; rw [h])
  obtain ⟨h1, h2, h3, h4, h5⟩ := valid_parts h
  obtain ⟨b, off, rfl, hl, hc⟩ := C_intsD hr0 (by omega)
  have x0 : w.cell? ⟨b, off, none⟩ = some (.int .u32 (l0.getD 0 0)) := hc 0 (by omega)
  have x1 : w.cell? ⟨b, off + 1, none⟩ = some (.int .u32 (l0.getD 1 0)) := hc 1 (by omega)
  have q0 : (0 < l0.length) = True := eq_true (by omega)
  have q1 : (1 < l0.length) = True := eq_true (by omega)
  have hq2 : 2 ≤ l0.length := h1
  have hq2c : 2 < c0 := by omega
  have q0' : (0 < (l0.length : Int)) = True := eq_true (by omega)
  have q1' : (1 < (l0.length : Int)) = True := eq_true (by omega)
  have HR := Lib.hid hr0
  have H1 : Hid (2 ≤ l0.length ∧ l0.length ≤ 20) := ⟨h1, h2⟩
  have HC := Lib.hid hc
  obtain ⟨a, ea⟩ : ∃ a, a = l0.getD 0 0 := ⟨_, rfl⟩
  obtain ⟨b1, eb⟩ : ∃ b1, b1 = l0.getD 1 0 := ⟨_, rfl⟩
  have ha0 : 0 ≤ a := by rw [ea, List.getD_eq_getElem?_getD, List.getElem?_eq_getElem (by omega)]; exact hp _ (List.getElem_mem _)
  have hb0 : 0 ≤ b1 := by rw [eb, List.getD_eq_getElem?_getD, List.getElem?_eq_getElem (by omega)]; exact hp _ (List.getElem_mem _)
  have hb9 : b1 < 4294967216 := by rw [eb, List.getD_eq_getElem?_getD, List.getElem?_eq_getElem (by omega)]; exact h5 _ (List.getElem_mem _)
  have ha2 : a ≤ 2 := by omega
  rw [← ea] at x0
  rw [← eb] at x1
  have EA := Lib.hid ea
  have EB := Lib.hid eb
  have HP := Lib.hid hp
  have H5 := Lib.hid h5
  clear ea eb hr0 h h1 h2 h3 h4 h5 hc hp
  go_enter Tryd.func20, Tryd.ntmps20
  go_wp2_with (go_at_call 36; refine (hv _ HR.out).mono ?_; rintro e w' ⟨rfl, ⟨nd, rfl⟩⟩)
  have S6 := GrpSt.start w (w.drewN nd) rfl
  have HB6 : Below w.heap.size w (((w.drewN nd).alloc (.cells #[.slice none 0 0] 30)).alloc (.cells #[.func (.func 43) #[] #[.pointer (some ⟨w.heap.size + 1, 0, none⟩), .pointer (some ⟨w.heap.size, 0, none⟩)]] 70)) :=
    below_alloc (below_alloc (pw_below_drewN (Below.refl _ _) nd) _) _
  generalize ((w.drewN nd).alloc (.cells #[.slice none 0 0] 30)).alloc (.cells #[.func (.func 43) #[] #[.pointer (some ⟨w.heap.size + 1, 0, none⟩), .pointer (some ⟨w.heap.size, 0, none⟩)]] 70) = W6 at *
  have y0 := pw_cell_below HB6 x0
  have y1 := pw_cell_below HB6 x1
  have yg := S6.g.cell
  clear x0 x1 hv
  have HS6 := Lib.hid S6
  have HBB := Lib.hid HB6
  clear S6 HB6
  have w1 : IntKind.u64.wrap a = a := u64_in _ ha0 (by omega)
  have w2 : IntKind.u64.wrap b1 = b1 := u64_in _ hb0 (by omega)
  have w3 : IntKind.u64.wrap (40 * a) = 40 * a := u64_in _ (by omega) (by omega)
  have w4 : IntKind.u64.wrap (40 * a + b1) = 40 * a + b1 := u64_in _ (by omega) (by omega)
  go_still_tail 11, (by kernel_rfl)
  change wpList _ _ _ _ _ W6.drew
  have HG := Lib.hid (fun W v xs S hl => grp_at (w.heap.size + 2) (w.heap.size + 1) w.heap.size (40 * a + b1) (by omega) (by omega) W v xs S hl)
  clear w1 w2 w3 w4 y0 y1 yg
  go_wp2_with (go_at_call 43; refine (HG.out _ _ _ HS6.out.drew (by simp)).mono ?_; rintro e w7 ⟨rfl, ⟨v7, S7⟩, hB7⟩; have HS7 := Lib.hid S7; have HB7 := Lib.hid hB7; clear S7 hB7)
  go_loopw [26] (fun i wr => ∃ k : Nat, k ≤ l0.length - 2 ∧ i = .int .i64 k ∧ Hid (∃ v, GrpSt wr (w.heap.size + 2) (w.heap.size + 1) w.heap.size v (grpL (40 * a + b1).toNat 0 ++ ((l0.drop 2).take k).flatMap fun n => grpL n.toNat 0)) ∧ Hid (Below w.heap.size w wr)) (fun i _ => l0.length - 2 - (intOf i).toNat)
  case atStart => exact ⟨0, Nat.zero_le _, rfl, ⟨v7, by simpa using HS7.out⟩, (HBB.out.drew.trans (HB7.out.mono (by omega)))⟩
  case round =>
    clear HS7 HB7 HS6 HBB
    obtain ⟨k, hk, rfl, HS, HB⟩ := hrel
    obtain ⟨v8, S8⟩ := HS.out
    by_cases hlt : k < l0.length - 2
    · have hg1 := S8.g.cell
      have hx : wr.cell? ⟨b, off + 2 + k, none⟩ = some (.int .u32 (l0.getD (2 + k) 0)) := by
        have := HC.out (2 + k) (by omega)
        rw [← Nat.add_assoc] at this
        exact pw_cell_below HB.out this
      obtain ⟨x, ex⟩ : ∃ x, x = l0.getD (2 + k) 0 := ⟨_, rfl⟩
      have hm : l0.getD (2 + k) 0 ∈ l0 := by rw [List.getD_eq_getElem?_getD, List.getElem?_eq_getElem (by omega)]; exact List.getElem_mem _
      have hx0 : 0 ≤ x := by rw [ex]; exact HP.out _ hm
      have hx9 : x < 4294967216 := by rw [ex]; exact H5.out _ hm
      rw [← ex] at hx
      have EX := Lib.hid ex
      have HS8 := Lib.hid S8
      have wx : IntKind.u64.wrap x = x := u64_in _ hx0 (by omega)
      have hL : Hid ((grpL (40 * a + b1).toNat 0 ++ ((l0.drop 2).take k).flatMap fun n => grpL n.toNat 0).length ≤ 100000000000000) := content_len l0 (40 * a + b1).toNat k (by omega) (by have := H1.out; omega) H5.out H1.out.2
      clear ex hm S8
      obtain ⟨wo, hwo⟩ : ∃ wo : World, wo = wr := ⟨_, rfl⟩
      rw [← hwo] at hg1 hx HS8 HB ⊢
      clear hwo HS
      go_wp2_with (go_at_call 43; refine (grp_at (w.heap.size + 2) (w.heap.size + 1) w.heap.size x hx0 (by omega) _ _ _ HS8.out hL.out).mono ?_; rintro e w9 ⟨rfl, ⟨v9, S9⟩, hB9⟩; have HS9 := Lib.hid S9; have HB9 := Lib.hid hB9; clear S9 hB9)
      go_roundw
      case rel =>
        refine ⟨k + 1, by omega, by go_num, ⟨v9, ?_⟩, HB.out.trans (HB9.out.mono (by omega))⟩
        have := HS9.out
        rw [EX.out] at this
        have e2 : (l0.drop 2).take (k + 1) = (l0.drop 2).take k ++ [l0.getD (2 + k) 0] := by
          rw [List.take_succ_eq_append_getElem (by simp; omega)]
          simp [List.getD_eq_getElem?_getD, List.getElem?_eq_getElem (show 2 + k < l0.length by omega)]
        rw [e2, List.flatMap_append, ← List.append_assoc]
        simpa using this
      case measure => simp [intOf]; omega
    · have hk2 : k = l0.length - 2 := by omega
      subst hk2
      have e3 : grpL (40 * a + b1).toNat 0 ++ ((l0.drop 2).take (l0.length - 2)).flatMap (fun n => grpL n.toNat 0) = contentL l0 := by
        unfold contentL
        rw [← EA.out, ← EB.out, List.take_of_length_le (by simp), show (40 * a + b1).toNat = 40 * a.toNat + b1.toNat by omega]
      rw [e3] at S8
      have ho1 := S8.o.cell
      have HS8 := Lib.hid S8
      clear S8 hlt hk e3
      obtain ⟨A8, c8, rfl⟩ := own_slice HS8.out.r
      go_wp2
      go_ret
      have h8 := HS8.out.r
      refine ⟨_, rfl, ?_, HB.out⟩
      exact Kd.R_of_own (enc := Value.int .u8) (h1 := fun _ => rfl) (own_weaken h8 (Nat.le_add_right _ 2)) (fun _ _ => trivial)

set_option maxHeartbeats 4000000 in
set_option maxRecDepth 100000 in
theorem content_two (A0 : Option Addr) (c0 : Nat) (l0 : List Int) (w : World) (hr0 : Kd.C (Kd.int .u32) w A0 l0.length l0) (hc0 : l0.length ≤ c0) (hcc : c0 = 2) (h : validB l0 = true) (hp : ∀ x ∈ l0, 0 ≤ x) :
    Calls Tryd.prog 20 #[.slice A0 l0.length c0] w fun e w' => ∃ v0_ : Value, e = .returned v0_ ∧ Kd.R (Kd.int .u8) 5 w' w.heap.size (fun _ => True) v0_ (contentL l0) ∧ Below w.heap.size w w' := by
  have hv := fun W (hW : Kd.C (Kd.int .u32) W A0 l0.length l0) => oid_Valid.calls A0 c0 l0 true W hW hc0 (by unfold oid_Valid.f; rw [h])
  obtain ⟨h1, h2, h3, h4, h5⟩ := valid_parts h
  obtain ⟨b, off, rfl, hl, hc⟩ := C_intsD hr0 (by omega)
  have x0 : w.cell? ⟨b, off, none⟩ = some (.int .u32 (l0.getD 0 0)) := hc 0 (by omega)
  have x1 : w.cell? ⟨b, off + 1, none⟩ = some (.int .u32 (l0.getD 1 0)) := hc 1 (by omega)
  have q0 : (0 < l0.length) = True := eq_true (by omega)
  have q1 : (1 < l0.length) = True := eq_true (by omega)
  have hq2 : 2 ≤ l0.length := h1
  subst hcc
  have q0' : (0 < (l0.length : Int)) = True := eq_true (by omega)
  have q1' : (1 < (l0.length : Int)) = True := eq_true (by omega)
  have HR := Lib.hid hr0
  have H1 : Hid (2 ≤ l0.length ∧ l0.length ≤ 20) := ⟨h1, h2⟩
  have HC := Lib.hid hc
  obtain ⟨a, ea⟩ : ∃ a, a = l0.getD 0 0 := ⟨_, rfl⟩
  obtain ⟨b1, eb⟩ : ∃ b1, b1 = l0.getD 1 0 := ⟨_, rfl⟩
  have ha0 : 0 ≤ a := by rw [ea, List.getD_eq_getElem?_getD, List.getElem?_eq_getElem (by omega)]; exact hp _ (List.getElem_mem _)
  have hb0 : 0 ≤ b1 := by rw [eb, List.getD_eq_getElem?_getD, List.getElem?_eq_getElem (by omega)]; exact hp _ (List.getElem_mem _)
  have hb9 : b1 < 4294967216 := by rw [eb, List.getD_eq_getElem?_getD, List.getElem?_eq_getElem (by omega)]; exact h5 _ (List.getElem_mem _)
  have ha2 : a ≤ 2 := by omega
  rw [← ea] at x0
  rw [← eb] at x1
  have EA := Lib.hid ea
  have EB := Lib.hid eb
  have HP := Lib.hid hp
  have H5 := Lib.hid h5
  clear ea eb hr0 h h1 h2 h3 h4 h5 hc hp
  go_enter Tryd.func20, Tryd.ntmps20
  go_wp2_with (go_at_call 36; refine (hv _ HR.out).mono ?_; rintro e w' ⟨rfl, ⟨nd, rfl⟩⟩)
  have S6 := GrpSt.start w (w.drewN nd) rfl
  have HB6 : Below w.heap.size w (((w.drewN nd).alloc (.cells #[.slice none 0 0] 30)).alloc (.cells #[.func (.func 43) #[] #[.pointer (some ⟨w.heap.size + 1, 0, none⟩), .pointer (some ⟨w.heap.size, 0, none⟩)]] 70)) :=
    below_alloc (below_alloc (pw_below_drewN (Below.refl _ _) nd) _) _
  generalize ((w.drewN nd).alloc (.cells #[.slice none 0 0] 30)).alloc (.cells #[.func (.func 43) #[] #[.pointer (some ⟨w.heap.size + 1, 0, none⟩), .pointer (some ⟨w.heap.size, 0, none⟩)]] 70) = W6 at *
  have y0 := pw_cell_below HB6 x0
  have y1 := pw_cell_below HB6 x1
  have yg := S6.g.cell
  clear x0 x1 hv
  have HS6 := Lib.hid S6
  have HBB := Lib.hid HB6
  clear S6 HB6
  have w1 : IntKind.u64.wrap a = a := u64_in _ ha0 (by omega)
  have w2 : IntKind.u64.wrap b1 = b1 := u64_in _ hb0 (by omega)
  have w3 : IntKind.u64.wrap (40 * a) = 40 * a := u64_in _ (by omega) (by omega)
  have w4 : IntKind.u64.wrap (40 * a + b1) = 40 * a + b1 := u64_in _ (by omega) (by omega)
  go_still_tail 11, (by kernel_rfl)
  change wpList _ _ _ _ _ W6.drew
  have HG := Lib.hid (fun W v xs S hl => grp_at (w.heap.size + 2) (w.heap.size + 1) w.heap.size (40 * a + b1) (by omega) (by omega) W v xs S hl)
  clear w1 w2 w3 w4 y0 y1 yg
  go_wp2_with (go_at_call 43; refine (HG.out _ _ _ HS6.out.drew (by simp)).mono ?_; rintro e w7 ⟨rfl, ⟨v7, S7⟩, hB7⟩; have HS7 := Lib.hid S7; have HB7 := Lib.hid hB7; clear S7 hB7)
  go_loopw [26] (fun i wr => ∃ k : Nat, k ≤ l0.length - 2 ∧ i = .int .i64 k ∧ Hid (∃ v, GrpSt wr (w.heap.size + 2) (w.heap.size + 1) w.heap.size v (grpL (40 * a + b1).toNat 0 ++ ((l0.drop 2).take k).flatMap fun n => grpL n.toNat 0)) ∧ Hid (Below w.heap.size w wr)) (fun i _ => l0.length - 2 - (intOf i).toNat)
  case atStart => exact ⟨0, Nat.zero_le _, rfl, ⟨v7, by simpa using HS7.out⟩, (HBB.out.drew.trans (HB7.out.mono (by omega)))⟩
  case round =>
    clear HS7 HB7 HS6 HBB
    obtain ⟨k, hk, rfl, HS, HB⟩ := hrel
    obtain ⟨v8, S8⟩ := HS.out
    by_cases hlt : k < l0.length - 2
    · exact absurd hlt (by omega)
    · have hk2 : k = l0.length - 2 := by omega
      subst hk2
      have e3 : grpL (40 * a + b1).toNat 0 ++ ((l0.drop 2).take (l0.length - 2)).flatMap (fun n => grpL n.toNat 0) = contentL l0 := by
        unfold contentL
        rw [← EA.out, ← EB.out, List.take_of_length_le (by simp), show (40 * a + b1).toNat = 40 * a.toNat + b1.toNat by omega]
      rw [e3] at S8
      have ho1 := S8.o.cell
      have HS8 := Lib.hid S8
      clear S8 hlt hk e3
      obtain ⟨A8, c8, rfl⟩ := own_slice HS8.out.r
      go_wp2
      go_ret
      have h8 := HS8.out.r
      refine ⟨_, rfl, ?_, HB.out⟩
      exact Kd.R_of_own (enc := Value.int .u8) (h1 := fun _ => rfl) (own_weaken h8 (Nat.le_add_right _ 2)) (fun _ _ => trivial)

theorem oid_Content.calls (A0 : Option Addr) (c0 : Nat) (l0 : List Int) (r : List Int) (w : World) (hr0 : Kd.C (Kd.int .u32) w A0 l0.length l0) (hc0 : l0.length ≤ c0) (h : oid_Content.f l0 = some r) :
    Calls Tryd.prog 20 #[.slice A0 l0.length c0] w fun e w' => ∃ v0_ : Value, e = .returned (v0_) ∧ Kd.R (Kd.int .u8) 5 w' w.heap.size (fun _ => True) v0_ r ∧ Below w.heap.size w w' := by
  unfold oid_Content.f at h
  by_cases hp : (l0.all fun x => decide (0 ≤ x)) = true
  · rw [if_pos hp] at h
    obtain rfl := Option.some.inj h
    have hp' : ∀ x ∈ l0, 0 ≤ x := fun x hx => by simpa using List.all_eq_true.1 hp x hx
    by_cases hv : validB l0 = true
    · rw [if_pos hv]
      by_cases hc : c0 = 2
      · exact content_two A0 c0 l0 w hr0 hc0 hc hv hp'
      · exact content_yes A0 c0 l0 w hr0 hc0 hc hv hp'
    · rw [if_neg hv]
      refine (content_no A0 c0 l0 w hr0 hc0 (Bool.eq_false_iff.2 hv)).mono ?_
      rintro e w' ⟨rfl, hb⟩
      exact ⟨_, rfl, Kd.R_nil _ _ _ _ _, hb⟩
  · rw [if_neg hp] at h
    cases h

end Go.Proofs.YtjoncjnmhhimhaaDoor.Hand
end

section
/- Which strings parse: the program's loop and the reference's loop over the words accept the same strings, with the same numbers. No program in sight. -/
namespace Go.Proofs.YtjoncjnmhhimhaaDoor.Oid
set_option linter.unusedVariables false
set_option linter.unusedSimpArgs false
open Go.Lib

theorem valid_iff (l : List Int) : validB l = true ↔ (2 ≤ l.length ∧ l.length ≤ 20 ∧ l.getD 0 0 ≤ 2 ∧ (2 ≤ l.getD 0 0 ∨ l.getD 1 0 < 40) ∧ ∀ n ∈ l, n < 4294967216) := by
  unfold validB
  simp only [Bool.and_eq_true, Bool.or_eq_true, decide_eq_true_eq, List.all_eq_true]
  constructor
  · intro h; exact ⟨h.1.1.1.1, h.1.1.1.2, h.1.1.2, h.1.2, h.2⟩
  · intro h; exact ⟨⟨⟨⟨h.1, h.2.1⟩, h.2.2.1⟩, h.2.2.2.1⟩, h.2.2.2.2⟩

theorem nDigits_le : ∀ (k n : Nat), 1 ≤ k → n < 10 ^ k → nDigits n ≤ k
  | 0, _, h, _ => absurd h (by omega)
  | k + 1, n, _, h => by
    by_cases h10 : n < 10
    · rw [nDigits_small h10]; omega
    · rw [nDigits_big h10]
      have hk : 1 ≤ k := by
        rcases Nat.eq_zero_or_pos k with rfl | hk
        · simp at h; omega
        · exact hk
      have := nDigits_le k (n / 10) hk (by rw [Nat.pow_succ] at h; omega)
      omega

/-- What the reference reads in a word: its number, or -1. -/
def numR (w : List UInt8) : Int :=
  if w ≠ [] ∧ (∀ c ∈ w, isDig c = true) ∧ (w.head? = some 48 → w.length = 1) ∧ w.length ≤ 10 ∧ valL 0 w ≤ 4294967295 then (valL 0 w : Int) else -1
def refLoop : List (List UInt8) → List Int → Option (List Int)
  | [], out => some out
  | w :: ws, out => if numR w < 0 then none else refLoop ws (out ++ [numR w])
def refParse (s : List UInt8) : List Int × Bool :=
  match refLoop (splitL [] s) [] with
  | some out => if validB out = true then (out, true) else ([], false)
  | none => ([], false)

/-- A text and its numbers. -/
def Good (s : List UInt8) (l : List Int) : Prop := validB l = true ∧ (∀ x ∈ l, 0 ≤ x) ∧ s = textL l

theorem dec_no46 (n : Nat) : ∀ c ∈ decDigits n, c ≠ 46 := by
  intro c hc e
  have := (dec_canon n).1.2.1 c hc
  subst e
  revert this
  decide
theorem numR_dec (n : Nat) (h : n < 4294967296) : numR (decDigits n) = n := by
  obtain ⟨⟨h1, h2, h3⟩, h4⟩ := dec_canon n
  unfold numR
  rw [if_pos ⟨h1, h2, h3, by rw [decDigits_length]; exact nDigits_le 10 n (by omega) (by omega), by rw [h4]; omega⟩, h4]
theorem dec_numR {w : List UInt8} (h : ¬ numR w < 0) : decDigits (numR w).toNat = w ∧ 0 ≤ numR w := by
  unfold numR at h ⊢
  split at h
  · rename_i hc
    rw [if_pos hc]
    refine ⟨?_, by omega⟩
    rw [Int.toNat_natCast]
    exact canon_dec w ⟨hc.1, hc.2.1, hc.2.2.1⟩
  · omega

theorem refLoop_some : ∀ (ws : List (List UInt8)) (acc out : List Int), refLoop ws acc = some out → ∃ l, out = acc ++ l ∧ (∀ x ∈ l, 0 ≤ x) ∧ (l.map fun n => decDigits n.toNat) = ws
  | [], acc, out, h => by
    simp only [refLoop, Option.some.injEq] at h
    exact ⟨[], by simp [h], by simp, rfl⟩
  | w :: ws, acc, out, h => by
    simp only [refLoop] at h
    split at h
    · cases h
    · rename_i hn
      obtain ⟨l, e, hp, hw⟩ := refLoop_some ws _ out h
      obtain ⟨e1, e2⟩ := dec_numR hn
      refine ⟨numR w :: l, by rw [e]; simp, ?_, by rw [List.map_cons, hw, e1]⟩
      intro x hx
      rcases List.mem_cons.1 hx with rfl | hx
      · exact e2
      · exact hp x hx
theorem refLoop_of : ∀ (l acc : List Int), (∀ x ∈ l, 0 ≤ x ∧ x < 4294967296) → refLoop (l.map fun n => decDigits n.toNat) acc = some (acc ++ l)
  | [], acc, _ => by simp [refLoop]
  | n :: l, acc, h => by
    obtain ⟨h0, h1⟩ := h n (by simp)
    have e : numR (decDigits n.toNat) = n := by rw [numR_dec _ (by omega)]; omega
    simp only [List.map_cons, refLoop]
    rw [e, if_neg (by omega), refLoop_of l _ (fun x hx => h x (by simp [hx]))]
    simp

theorem split_text {s : List UInt8} {l : List Int} (h : Good s l) : splitL [] s = l.map fun n => decDigits n.toNat := by
  obtain ⟨h1, _, rfl⟩ := h
  have hl := ((valid_iff l).1 h1).1
  unfold textL
  apply splitL_join
  · intro e
    have := congrArg List.length e
    simp at this
    subst this
    simp at hl
  · intro w hw
    obtain ⟨n, _, rfl⟩ := List.mem_map.1 hw
    exact dec_no46 _
theorem refParse_good {s : List UInt8} {l : List Int} (h : Good s l) : refParse s = (l, true) := by
  have hv := ((valid_iff l).1 h.1).2.2.2.2
  unfold refParse
  rw [split_text h, refLoop_of l [] (fun x hx => ⟨h.2.1 x hx, by have := hv x hx; omega⟩)]
  simp [h.1]
theorem good_refParse {s : List UInt8} {l : List Int} (h : refParse s = (l, true)) : Good s l := by
  unfold refParse at h
  cases hr : refLoop (splitL [] s) [] with
  | none => rw [hr] at h; simp at h
  | some out =>
    rw [hr] at h
    simp only at h
    by_cases hv : validB out = true
    · rw [if_pos hv] at h
      simp only [Prod.mk.injEq, and_true] at h
      subst h
      obtain ⟨l2, e, hp, hw⟩ := refLoop_some _ _ _ hr
      rw [List.nil_append] at e
      subst e
      refine ⟨hv, hp, ?_⟩
      unfold textL
      rw [hw, join_splitL]
      rfl
    · rw [if_neg hv] at h
      simp at h
theorem refParse_two (s : List UInt8) : (∃ l, refParse s = (l, true)) ∨ refParse s = ([], false) := by
  unfold refParse
  cases refLoop (splitL [] s) [] with
  | none => exact .inr rfl
  | some out =>
    simp only
    by_cases hv : validB out = true
    · rw [if_pos hv]; exact .inl ⟨_, rfl⟩
    · rw [if_neg hv]; exact .inr rfl

/-! ### The program's side -/
theorem index_one (l : List UInt8) : (index l [46] = -1 ∧ ∀ c ∈ l, c ≠ 46) ∨ ∃ a b, l = a ++ 46 :: b ∧ (∀ c ∈ a, c ≠ (46 : UInt8)) ∧ index l [46] = (a.length : Int) := by
  induction l with
  | nil => left; exact ⟨by simp [index], by simp⟩
  | cons b l ih =>
    by_cases h : b = 46
    · subst h
      right
      exact ⟨[], l, rfl, by simp, by rw [index]; simp [List.isPrefixOf]⟩
    · have hp : ([46] : List UInt8).isPrefixOf (b :: l) = false := by simp [List.isPrefixOf, Ne.symm h]
      have hix : index (b :: l) [46] = if index l [46] == -1 then -1 else index l [46] + 1 := by rw [index, hp]; simp
      rcases ih with ⟨h1, h2⟩ | ⟨x, y, rfl, h2, h3⟩
      · left
        refine ⟨by rw [hix, h1]; rfl, ?_⟩
        intro c hc
        rcases List.mem_cons.1 hc with rfl | hc
        · exact h
        · exact h2 c hc
      · right
        refine ⟨b :: x, y, by simp, ?_, ?_⟩
        · intro c hc
          rcases List.mem_cons.1 hc with rfl | hc
          · exact h
          · exact h2 c hc
        · rw [hix, h3, if_neg (by simp)]
          simp
theorem splitL_none {l : List UInt8} (h : ∀ c ∈ l, c ≠ 46) : splitL [] l = [l] := by
  have := splitL_skip l h [] []
  rw [List.append_nil] at this
  rw [this]
  simp [splitL]
theorem words_split : ∀ (k : Nat) (s : ByteArray), countB s ⟨#[46]⟩ = k → (splitB ⟨#[46]⟩ 0 k s).map (·.data.toList) = splitL [] s.data.toList
  | 0, s, hk => by
    rcases index_one s.data.toList with ⟨h1, h2⟩ | ⟨a, b, h1, h2, h3⟩
    · rw [splitB_zero, splitL_none h2]; rfl
    · have := countB_hit s ⟨#[46]⟩ a.length (by decide) h3
      omega
  | k + 1, s, hk => by
    rcases index_one s.data.toList with ⟨h1, h2⟩ | ⟨a, b, h1, h2, h3⟩
    · rw [countB_miss s _ h1] at hk
      omega
    · have hc := countB_hit s ⟨#[46]⟩ a.length (by decide) h3
      have hsz : s.size = s.data.toList.length := by show s.data.size = _; exact Array.length_toList.symm
      have hlen : s.size = a.length + 1 + b.length := by rw [hsz, h1]; simp; omega
      rw [splitB_hit _ 0 k s a.length h3, List.map_cons, words_split k _ (by omega)]
      have e1 : (s.extract 0 (a.length + 0)).data.toList = a := by
        rw [ByteArray.data_extract, Array.toList_extract, h1]
        simp
      have e2 : (s.extract (a.length + (⟨#[46]⟩ : ByteArray).size) s.size).data.toList = b := by
        rw [ByteArray.data_extract, Array.toList_extract, h1, hlen, show (⟨#[46]⟩ : ByteArray).size = 1 from rfl]
        rw [List.extract_eq_take_drop, show a ++ 46 :: b = (a ++ [46]) ++ b by simp, List.drop_left' (by simp)]
        exact List.take_of_length_le (by omega)
      rw [e1, e2, h1, splitL_skip a h2]
      simp [splitL]

theorem parseLoop_some : ∀ (ws : List ByteArray) (acc out : List Int), (∀ x ∈ acc, 0 ≤ x) → parseLoop ws acc = some out → ∀ x ∈ out, 0 ≤ x
  | [], acc, out, hp, h => by
    simp only [parseLoop, Option.some.injEq] at h
    subst h; exact hp
  | w :: ws, acc, out, hp, h => by
    simp only [parseLoop] at h
    split at h
    · split at h
      · cases h
      · exact parseLoop_some ws _ out (fun x hx => by
          rcases List.mem_append.1 hx with hx | hx
          · exact hp x hx
          · simp only [List.mem_singleton] at hx; omega) h
    · cases h
theorem parseUintB_dec (n : Nat) (h : n < 4294967296) : parseUintB 32 (decDigits n) = .ok n := by
  obtain ⟨⟨h1, h2, _⟩, h4⟩ := dec_canon n
  unfold parseUintB
  rw [if_neg h1, parseUintM_of (2 ^ 32 - 1) (by omega) _ 0 h2 (by rw [h4]; omega), h4]
theorem parseLoop_of : ∀ (ws : List ByteArray) (l acc : List Int), ws.map (·.data.toList) = (l.map fun n => decDigits n.toNat) → (∀ x ∈ l, 0 ≤ x ∧ x < 4294967296) → acc.length + l.length ≤ 20 → parseLoop ws acc = some (acc ++ l)
  | [], l, acc, hw, _, _ => by
    have : l = [] := by
      cases l with
      | nil => rfl
      | cons n l => simp at hw
    subst this
    simp [parseLoop]
  | w :: ws, l, acc, hw, hp, hl => by
    cases l with
    | nil => simp at hw
    | cons n l =>
      simp only [List.map_cons, List.cons.injEq] at hw
      obtain ⟨h0, h1⟩ := hp n (by simp)
      simp only [parseLoop]
      rw [hw.1, parseUintB_dec _ (by omega)]
      simp only
      simp only [List.length_cons] at hl
      rw [if_neg (by omega), parseLoop_of ws l _ hw.2 (fun x hx => hp x (by simp [hx])) (by simp; omega), show ((n.toNat : Nat) : Int) = n by omega]
      simp
theorem parseB_good {s : ByteArray} {l : List Int} (h : Good s.data.toList l) : parseB s = (l, true) := by
  obtain ⟨hv, hp, hs⟩ := h
  have hv5 := (valid_iff l).1 hv
  unfold parseB wordsB
  rw [parseLoop_of _ l [] (by rw [words_split _ s rfl]; exact split_text ⟨hv, hp, hs⟩) (fun x hx => ⟨hp x hx, by have := hv5.2.2.2.2 x hx; omega⟩) (by simp; omega)]
  simp only [List.nil_append]
  have ht : textB l = s := by
    unfold textB
    rw [if_pos hv, ← hs]
  rw [if_pos ⟨ht, hv⟩]
theorem good_parseB {s : ByteArray} {l : List Int} (h : parseB s = (l, true)) : Good s.data.toList l := by
  unfold parseB at h
  cases hr : parseLoop (wordsB s) [] with
  | none => rw [hr] at h; simp at h
  | some out =>
    rw [hr] at h
    simp only at h
    by_cases hc : textB out = s ∧ validB out = true
    · rw [if_pos hc] at h
      simp only [Prod.mk.injEq, and_true] at h
      subst h
      refine ⟨hc.2, parseLoop_some _ [] _ (by simp) hr, ?_⟩
      rw [← hc.1]
      unfold textB
      rw [if_pos hc.2]
    · rw [if_neg hc] at h
      simp at h
theorem parseB_two (s : ByteArray) : (∃ l, parseB s = (l, true)) ∨ parseB s = ([], false) := by
  unfold parseB
  cases parseLoop (wordsB s) [] with
  | none => exact .inr rfl
  | some out =>
    simp only
    by_cases hc : textB out = s ∧ validB out = true
    · rw [if_pos hc]; exact .inl ⟨_, rfl⟩
    · rw [if_neg hc]; exact .inr rfl

/-- THE TWO PARSERS AGREE. -/
theorem parse_eq (s : ByteArray) : parseB s = refParse s.data.toList := by
  rcases parseB_two s with ⟨l, h⟩ | h
  · rw [h, refParse_good (good_parseB h)]
  · rcases refParse_two s.data.toList with ⟨l, h2⟩ | h2
    · rw [parseB_good (good_refParse h2)] at h
      simp at h
    · rw [h, h2]

end Go.Proofs.YtjoncjnmhhimhaaDoor.Oid
end

section
/- pyxref09.Valid and pyxref09.Content come to the same plain functions as the program's Valid and Content. -/
namespace Go.Proofs.YtjoncjnmhhimhaaDoor.Hand
set_option linter.unusedVariables false
set_option linter.unusedSimpArgs false
open Go.RowKit Go.Proofs.YtjoncjnmhhimhaaDoorW.PrintWords Go.Proofs.YtjoncjnmhhimhaaDoorW.PrintLast Go.Proofs.YtjoncjnmhhimhaaDoorW.PrintMore
open Go.Proofs.YtjoncjnmhhimhaaDoor.Oid

theorem ref9_valid (l : List Int) (k : Nat) (hk : 24 ≤ k) : PRef9.pyxref09_Valid.f k l = some (validB l) := by
  have hloop : ∀ (d k i : Nat), i + d = l.length → l.length ≤ 20 → d < k → PRef9.pyxref09_Valid.l0 k l (i : Int) = some ((l.drop i).all fun n => decide (n < 4294967216)) := by
    intro d
    induction d with
    | zero =>
      intro k i h1 _ h3
      obtain ⟨k, rfl⟩ : ∃ m, k = m + 1 := ⟨k - 1, by omega⟩
      have : l.drop i = [] := List.drop_eq_nil_of_le (by omega)
      rw [PRef9.pyxref09_Valid.l0, if_neg (by omega), this]
      rfl
    | succ d ih =>
      intro k i h1 hl h3
      obtain ⟨k, rfl⟩ : ∃ m, k = m + 1 := ⟨k - 1, by omega⟩
      have hlt : i < l.length := by omega
      have hrd : rd l (i : Int) = l[i] := by simp [rd, List.getD, hlt]
      rw [PRef9.pyxref09_Valid.l0, if_pos (by omega), if_pos (by omega), hrd, List.drop_eq_getElem_cons hlt, List.all_cons]
      by_cases hn : l[i] < 4294967216
      · rw [if_neg (by omega), i64_in _ (by omega) (by omega), decide_eq_true hn, Bool.true_and]
        have := ih k (i + 1) (by omega) hl (by omega)
        rw [show ((i + 1 : Nat) : Int) = (i : Int) + 1 from by omega] at this
        exact this
      · rw [if_pos (by omega), decide_eq_false hn, Bool.false_and]
  have hj : ∀ b k, 23 ≤ k → l.length ≤ 20 → PRef9.pyxref09_Valid.j0 k l b = some (!b && l.all fun n => decide (n < 4294967216)) := by
    intro b k hk hl
    obtain ⟨k, rfl⟩ : ∃ m, k = m + 1 := ⟨k - 1, by omega⟩
    rw [PRef9.pyxref09_Valid.j0]
    cases b with
    | true => rw [if_pos rfl]; rfl
    | false =>
      rw [if_neg (by decide)]
      have := hloop l.length k 0 (by omega) hl (by omega)
      rw [show ((0 : Nat) : Int) = 0 from rfl] at this
      rw [this]
      rfl
  have hj1 : ∀ k, 23 ≤ k → PRef9.pyxref09_Valid.j0 k l true = some false := by
    intro k hk
    obtain ⟨k, rfl⟩ : ∃ m, k = m + 1 := ⟨k - 1, by omega⟩
    rw [PRef9.pyxref09_Valid.j0, if_pos rfl]
  have no : ¬ (2 ≤ l.length ∧ l.length ≤ 20 ∧ l.getD 0 0 ≤ 2 ∧ (2 ≤ l.getD 0 0 ∨ l.getD 1 0 < 40) ∧ ∀ n ∈ l, n < 4294967216) → validB l = false := fun h => Bool.eq_false_iff.2 (fun e => h ((valid_iff l).1 e))
  unfold PRef9.pyxref09_Valid.f
  by_cases h1 : l.length < 2
  · rw [if_pos (by omega), hj1 k (by omega), no (by omega)]
  rw [if_neg (by omega)]
  by_cases h2 : 20 < l.length
  · rw [if_pos (by omega), hj1 k (by omega), no (by omega)]
  rw [if_neg (by omega), if_pos (by omega)]
  have r0 : rd l 0 = l.getD 0 0 := rfl
  have r1 : rd l 1 = l.getD 1 0 := rfl
  rw [r0, r1]
  by_cases h3 : 2 < l.getD 0 0
  · rw [if_pos (by omega), hj1 k (by omega), no (by omega)]
  rw [if_neg (by omega)]
  have fin : (2 ≤ l.getD 0 0 ∨ l.getD 1 0 < 40) → some (l.all fun n => decide (n < 4294967216)) = some (validB l) := by
    intro h4
    unfold validB
    rw [decide_eq_true (by omega : 2 ≤ l.length), decide_eq_true (by omega : l.length ≤ 20), decide_eq_true (by omega : l.getD 0 0 ≤ 2)]
    have : (decide (2 ≤ l.getD 0 0) || decide (l.getD 1 0 < 40)) = true := by simpa using h4
    rw [this]
    simp
  by_cases h4 : l.getD 0 0 < 2
  · rw [if_pos h4, if_pos (by omega)]
    by_cases h5 : l.getD 1 0 < 40
    · rw [decide_eq_false (by omega), hj false k (by omega) (by omega)]
      exact fin (.inr h5)
    · rw [decide_eq_true (by omega), hj1 k (by omega), no (by omega)]
  · rw [if_neg h4, hj false k (by omega) (by omega)]
    exact fin (.inl (by omega))

def pyxref09_Valid.f (l0 : List Int) : Option Bool := some (validB l0)
theorem pyxref09_Valid.calls (A0 : Option Addr) (c0 : Nat) (l0 : List Int) (r : Bool) (w : World) (hr0 : Kd.C (Kd.int .u32) w A0 l0.length l0) (hc0 : l0.length ≤ c0) (h : pyxref09_Valid.f l0 = some r) :
    Calls Tryd.prog 23 #[.slice A0 l0.length c0] w fun e w' => e = .returned (.bool r) ∧ Drawn0 w w' :=
  PRef9.pyxref09_Valid.calls 24 A0 c0 l0 r w hr0 hc0 ((ref9_valid l0 24 (by omega)).trans h)

theorem ref9_group_loop : ∀ (j k n : Nat) (out : List Int), n < 128 ^ j → n < 1000000000000000 → j < k → out.length + j ≤ 1000 → PRef9.pyxref09_group.l0 k (n : Int) out = some ((if n = 0 then [] else grpL n 128) ++ out) := by
  intro j
  induction j with
  | zero =>
    intro k n out h1 hb h2 h3
    obtain ⟨k, rfl⟩ : ∃ m, k = m + 1 := ⟨k - 1, by omega⟩
    have : n = 0 := by simp at h1; omega
    subst this
    rw [PRef9.pyxref09_group.l0, if_neg (by omega), if_pos rfl]
    rfl
  | succ j ih =>
    intro k n out h1 hb h2 h3
    obtain ⟨k, rfl⟩ : ∃ m, k = m + 1 := ⟨k - 1, by omega⟩
    rw [PRef9.pyxref09_group.l0]
    by_cases h0 : n = 0
    · subst h0
      rw [if_neg (by omega), if_pos rfl]
      rfl
    · rw [if_pos (by omega), if_neg h0]
      have e1 : (wrap64 (128 + (Int.tmod (n : Int) 128))) % 256 = ((n % 128 + 128 : Nat) : Int) := by
        rw [Int.tmod_eq_emod_of_nonneg (by omega), i64_in _ (by omega) (by omega)]
        omega
      have e2 : wrap64 (Int.tdiv (n : Int) 128) = ((n / 128 : Nat) : Int) := by
        rw [Int.tdiv_eq_ediv_of_nonneg (by omega), i64_in _ (by omega) (by omega)]
        omega
      rw [e1, e2]
      simp only [Option.bind_some]
      rw [if_pos (by simp; omega)]
      have hdiv : n / 128 < 128 ^ j := by rw [Nat.pow_succ] at h1; omega
      rw [ih k (n / 128) _ hdiv (by omega) (by omega) (by simp; omega)]
      by_cases h128 : n < 128
      · rw [show n / 128 = 0 by omega, if_pos rfl, grpL_small h128]
        rfl
      · rw [if_neg (by omega), grpL_big h128]
        simp
theorem ref9_group (k : Nat) (n : Int) (h0 : 0 ≤ n) (h1 : n < 1000000000000) (hk : 10 ≤ k) : PRef9.pyxref09_group.f k n = some (grpL n.toNat 0) := by
  obtain ⟨m, rfl⟩ := Int.eq_ofNat_of_zero_le h0
  unfold PRef9.pyxref09_group.f
  rw [Int.tdiv_eq_ediv_of_nonneg (by omega), Int.tmod_eq_emod_of_nonneg (by omega), i64_in _ (by omega) (by omega), show ((m : Int) / 128) = ((m / 128 : Nat) : Int) by omega, show (m : Int) % 128 % 256 = ((m % 128 + 0 : Nat) : Int) by omega]
  rw [ref9_group_loop 6 k (m / 128) _ (by omega) (by omega) (by omega) (by simp), Int.toNat_natCast]
  by_cases h128 : m < 128
  · rw [show m / 128 = 0 by omega, if_pos rfl, grpL_small h128]
    rfl
  · rw [if_neg (by omega), grpL_big h128]

theorem ref9_loop (l : List Int) (n : Nat) (hn : n < 1000000000000) (h5 : ∀ x ∈ l, 0 ≤ x ∧ x < 4294967216) (hl : l.length ≤ 20) : ∀ (d k i : Nat), i + d = l.length → 2 ≤ i → d + 20 ≤ k →
    PRef9.pyxref09_Content.l0 k l (grpL n 0 ++ ((l.drop 2).take (i - 2)).flatMap fun n => grpL n.toNat 0) (i : Int) = some (grpL n 0 ++ (l.drop 2).flatMap fun n => grpL n.toNat 0) := by
  intro d
  induction d with
  | zero =>
    intro k i h1 h2 h3
    obtain ⟨k, rfl⟩ : ∃ m, k = m + 1 := ⟨k - 1, by omega⟩
    rw [PRef9.pyxref09_Content.l0, if_neg (by omega), List.take_of_length_le (by simp; omega)]
  | succ d ih =>
    intro k i h1 h2 h3
    obtain ⟨k, rfl⟩ : ∃ m, k = m + 1 := ⟨k - 1, by omega⟩
    have hlt : i < l.length := by omega
    have hrd : rd l (i : Int) = l[i] := by simp [rd, List.getD, hlt]
    obtain ⟨p0, p1⟩ := h5 l[i] (List.getElem_mem hlt)
    rw [PRef9.pyxref09_Content.l0, if_pos (by omega), if_pos (by omega), hrd, i64_in _ (by omega) (by omega), ref9_group k _ p0 (by omega) (by omega)]
    simp only [Option.bind_some]
    have hlen := content_len l n (i - 2) hn (by omega) (fun x hx => (h5 x hx).2) hl
    have hg := grpL_len l[i].toNat 0
    rw [if_pos (by omega), i64_in _ (by omega) (by omega)]
    have := ih k (i + 1) (by omega) (by omega) (by omega)
    rw [show ((i + 1 : Nat) : Int) = (i : Int) + 1 from by omega] at this
    have e2 : (l.drop 2).take (i + 1 - 2) = (l.drop 2).take (i - 2) ++ [l[i]] := by
      rw [show i + 1 - 2 = (i - 2) + 1 by omega, List.take_succ_eq_append_getElem (by simp; omega)]
      simp [show 2 + (i - 2) = i by omega]
    rw [e2, List.flatMap_append, ← List.append_assoc] at this
    simpa using this

theorem ref9_content (l : List Int) (k : Nat) (hk : 60 ≤ k) (hp : ∀ x ∈ l, 0 ≤ x) : PRef9.pyxref09_Content.f k l = some (if validB l = true then contentL l else []) := by
  unfold PRef9.pyxref09_Content.f
  rw [ref9_valid l k (by omega)]
  simp only [Option.bind_some]
  by_cases hv : validB l = true
  · rw [if_pos hv, if_pos hv]
    obtain ⟨h1, h2, h3, h4, h5⟩ := valid_parts hv
    have q : ∀ j (hj : j < l.length), rd l (j : Int) = l.getD j 0 := by intro j hj; simp [rd]
    have hm : ∀ j, j < l.length → l.getD j 0 ∈ l := by intro j hj; rw [List.getD_eq_getElem?_getD, List.getElem?_eq_getElem hj]; exact List.getElem_mem _
    have a0 := hp _ (hm 0 (by omega))
    have b0 := hp _ (hm 1 (by omega))
    have b9 := h5 _ (hm 1 (by omega))
    have q0 := q 0 (by omega)
    have q1 := q 1 (by omega)
    rw [show ((0 : Nat) : Int) = 0 from rfl] at q0
    rw [show ((1 : Nat) : Int) = 1 from rfl] at q1
    rw [if_pos (by omega), if_pos (by omega), q0, q1]
    rw [i64_in (l.getD 0 0) (by omega) (by omega), i64_in (l.getD 1 0) (by omega) (by omega), i64_in (40 * l.getD 0 0) (by omega) (by omega), i64_in _ (by omega) (by omega)]
    rw [ref9_group k _ (by omega) (by omega) (by omega)]
    simp only [Option.bind_some]
    have := ref9_loop l (40 * l.getD 0 0 + l.getD 1 0).toNat (by omega) (fun x hx => ⟨hp x hx, h5 x hx⟩) h2 (l.length - 2) k 2 (by omega) (by omega) (by omega)
    rw [show ((2 : Nat) : Int) = 2 from rfl] at this
    simp only [Nat.sub_self, List.take_zero, List.flatMap_nil, List.append_nil] at this
    rw [this, show (40 * l.getD 0 0 + l.getD 1 0).toNat = 40 * (l.getD 0 0).toNat + (l.getD 1 0).toNat by omega]
    rfl
  · rw [if_neg hv, if_neg hv]

def pyxref09_Content.f (l0 : List Int) : Option (List Int) := oid_Content.f l0
theorem pyxref09_Content.calls (A0 : Option Addr) (c0 : Nat) (l0 : List Int) (r : List Int) (w : World) (hr0 : Kd.C (Kd.int .u32) w A0 l0.length l0) (hc0 : l0.length ≤ c0) (h : pyxref09_Content.f l0 = some r) :
    Calls Tryd.prog 42 #[.slice A0 l0.length c0] w fun e w' => ∃ v0_ : Value, e = .returned (v0_) ∧ Kd.R (Kd.int .u8) 5 w' w.heap.size (fun _ => True) v0_ r ∧ Below w.heap.size w w' := by
  unfold pyxref09_Content.f oid_Content.f at h
  by_cases hp : (l0.all fun x => decide (0 ≤ x)) = true
  · rw [if_pos hp] at h
    exact PRef9.pyxref09_Content.calls 60 A0 c0 l0 r w hr0 hc0 ((ref9_content l0 60 (by omega) (fun x hx => by simpa using List.all_eq_true.1 hp x hx)).trans h)
  · rw [if_neg hp] at h
    cases h

end Go.Proofs.YtjoncjnmhhimhaaDoor.Hand
end

section
-- Written by the kit's print.py, driven by this place's wip/tools/myprint.py. Not trusted: Lean checks it.
namespace Go.Proofs.YtjoncjnmhhimhaaDoor.PRefT
open Go.RowKit Go.Proofs.YtjoncjnmhhimhaaDoor.Hand Go.Proofs.YtjoncjnmhhimhaaDoorW.PrintWords Go.Proofs.YtjoncjnmhhimhaaDoorW.PrintLast Go.Proofs.YtjoncjnmhhimhaaDoorW.PrintMore
attribute [local go_sem] max2_int min2_int max_two min_two max_three min_three max_four min_four   -- for this text's walks alone
set_option linter.unusedVariables false
set_option linter.unusedSimpArgs false



def errW : Option Int → Value
  | none => .nilIface
  | some c => .iface 0 (.int .i64 c)
theorem errW_none : errW none = .nilIface := rfl
theorem errW_some (c : Int) : errW (some c) = .iface 0 (.int .i64 c) := rfl

-- the values' own types
def rd_L1 (xs : List (List Int)) (i : Int) : (List Int) := xs.getD i.toNat ([] : List Int)
theorem at_L1 {w : World} {A : Option Addr} {n : Nat} {xs : List (List Int)} (h : Kd.C (Kd.slice 27 (Kd.int .u32)) w A n xs) (i : Int) (h0 : 0 ≤ i) (h1 : i < n) : ∃ ad A0 c0, A = some ad ∧ w.cell? (ad.add i.toNat) = some (.slice A0 (rd_L1 xs i).length c0) ∧ (rd_L1 xs i).length ≤ c0 ∧ (Kd.int .u32).C w A0 (rd_L1 xs i).length (rd_L1 xs i) := by
  obtain ⟨ad, c, e, _, hK, hc0⟩ := Kd.C_get h ([] : List Int) i h0 h1
  have hc : ∀ j u, c[j]? = some u → w.cell? (ad.add (i.toNat * 1 + j)) = some u := hc0
  obtain ⟨A0, c0, rfl, l0, g0⟩ := hK
  exact ⟨ad, A0, c0, e, by have hq := hc 0 _ rfl; rwa [Nat.mul_one, Nat.add_zero] at hq, l0, g0⟩

end Go.Proofs.YtjoncjnmhhimhaaDoor.PRefT
namespace Go.Proofs.YtjoncjnmhhimhaaDoor.PRefT
open Go.RowKit Go.Proofs.YtjoncjnmhhimhaaDoor.Hand Go.Proofs.YtjoncjnmhhimhaaDoorW.PrintWords Go.Proofs.YtjoncjnmhhimhaaDoorW.PrintLast Go.Proofs.YtjoncjnmhhimhaaDoorW.PrintMore
attribute [local go_sem] max2_int min2_int max_two min_two max_three min_three max_four min_four   -- for this text's walks alone
set_option linter.unusedVariables false
set_option linter.unusedSimpArgs false

-- BY CONTRACT: function 23 (pyxref09_Valid)

-- BY CONTRACT: function 44 (pyxref02_Decimal)

/-! ### pyxref09_Text: function 21 -/
def pyxref09_Text.l0 : Nat → List Int → ByteArray → Int → Option (ByteArray)
  | 0, _, _, _ => none
  | k + 1, x0, x3, x4 => if x4 < (x0.length : Int) then (if x3.size + 1 ≤ 9223372036854775807 then (if 0 ≤ x4 then ((pyxref02_Decimal.f (wrap64 (rd x0 x4))).bind fun t105 => (if (x3 ++ (⟨#[46]⟩ : ByteArray)).size + t105.size ≤ 9223372036854775807 then (pyxref09_Text.l0 k x0 ((x3 ++ (⟨#[46]⟩ : ByteArray)) ++ t105) (wrap64 (x4 + 1))) else (none))) else (none)) else (none)) else (some x3)
def pyxref09_Text.f (k : Nat) (l0 : List Int) : Option (ByteArray) := (pyxref09_Valid.f l0).bind fun t101 => (if t101 = true then (if 0 < (l0.length : Int) then ((pyxref02_Decimal.f (wrap64 (rd l0 0))).bind fun t103 => (pyxref09_Text.l0 k l0 t103 1)) else (none)) else (some (⟨#[]⟩ : ByteArray)))
theorem pyxref09_Text.mono_l : ∀ k, (∀ y0 y1 y2, LeO (pyxref09_Text.l0 k y0 y1 y2) (pyxref09_Text.l0 (k + 1) y0 y1 y2))
  | 0 => fun _ _ _ r h => by simp [pyxref09_Text.l0] at h
  | k + 1 => by
    have ih0 := pyxref09_Text.mono_l k
    · intro y0 y1 y2
      unfold pyxref09_Text.l0
      repeat' first
      | (with_reducible exact ih0 _ _ _)
      | (with_reducible exact LeO.refl _)
      | (with_reducible exact LeO.none _)
      | (with_reducible refine LeO.ite ?_ ?_)
      | (with_reducible refine LeO.bind ?_ (fun _ => ?_))
      | exact ih0 _ _ _
      | exact LeO.none _
      | refine LeO.ite ?_ ?_
      | refine LeO.bind ?_ (fun _ => ?_)
theorem pyxref09_Text.mono : ∀ a0 k, LeO (pyxref09_Text.f k a0) (pyxref09_Text.f (k + 1) a0) := by
  intro a0 k
  have ih0 := pyxref09_Text.mono_l k
  unfold pyxref09_Text.f
  repeat' first
      | (with_reducible exact ih0 _ _ _)
      | (with_reducible exact LeO.refl _)
      | (with_reducible exact LeO.none _)
      | (with_reducible refine LeO.ite ?_ ?_)
      | (with_reducible refine LeO.bind ?_ (fun _ => ?_))
      | exact ih0 _ _ _
      | exact LeO.none _
      | refine LeO.ite ?_ ?_
      | refine LeO.bind ?_ (fun _ => ?_)
set_option maxHeartbeats 8000000 in
set_option maxRecDepth 100000 in
theorem pyxref09_Text.calls (k : Nat) (A0 : Option Addr) (c0 : Nat) (l0 : List Int) (r : ByteArray) (w : World) (hr0 : Kd.C (Kd.int .u32) w A0 l0.length l0) (hc0 : l0.length ≤ c0) (h : pyxref09_Text.f k l0 = some r) :
    Calls Tryd.prog 21 #[.slice A0 l0.length c0] w fun e w' => e = .returned (.string r) ∧ Below w.heap.size w w' := by
  have HR0 := Aside0.mk hr0
  have HC0 := Aside0.mk hc0
  clear hr0 hc0
  have HB := Aside0.mk (Below.refl w.heap.size w)
  have H : ((pyxref09_Valid.f l0).bind fun t101 => (if t101 = true then (if 0 < (l0.length : Int) then ((pyxref02_Decimal.f (wrap64 (rd l0 0))).bind fun t103 => (pyxref09_Text.l0 k l0 t103 1)) else (none)) else (some (⟨#[]⟩ : ByteArray)))) = some r := h
  clear h
  replace H := Option.bind_eq_some_iff.mp H
  obtain ⟨t101, A20, H⟩ := H
  replace H : (if t101 = true then (if 0 < (l0.length : Int) then ((pyxref02_Decimal.f (wrap64 (rd l0 0))).bind fun t103 => (pyxref09_Text.l0 k l0 t103 1)) else (none)) else (some (⟨#[]⟩ : ByteArray))) = some r := H
  have A2 := Aside0.mk A20
  clear A20
  by_cases c3 : t101 = true
  · subst c3
    have H1 : (if 0 < (l0.length : Int) then ((pyxref02_Decimal.f (wrap64 (rd l0 0))).bind fun t103 => (pyxref09_Text.l0 k l0 t103 1)) else (none)) = some r := by rw [if_pos rfl] at H; exact H
    clear H
    have H := H1
    clear H1
    by_cases c4 : 0 < (l0.length : Int)
    · rw [if_pos c4] at H
      have c4b0 : decide (0 < (l0.length : Int)) = true := decide_eq_true c4
      have c4b1 : decide (0 < l0.length) = true := decide_eq_true (by omega)
      clear c4
      replace H := Option.bind_eq_some_iff.mp H
      obtain ⟨t103, A50, H⟩ := H
      replace H : (pyxref09_Text.l0 k l0 t103 1) = some r := H
      have A5 := Aside0.mk A50
      clear A50
      have H' := Aside0.mk H
      clear H
      go_enter Tryd.func21, Tryd.ntmps21
      go_wp2_with (first | ((with_reducible refine gate_callee (f := 23) rfl ?_); refine goesL_ (some 6) rfl rfl Tryd.func23 (by kernel_rfl) rfl #[.slice A0 l0.length c0] rfl (by (try simp only [List.map_toArray, List.map_cons, List.map_nil]); first | done | rfl | (simp only [List.length_drop, List.length_take]; rfl)) ?_; (with_reducible refine (pyxref09_Valid.calls _ _ l0 true _ ?side1 ?side2 A2.out).mono ?_); (case side1 => repeat (first | exact HR0.out | (with_reducible refine Kd.C_alloc ?_ _) | (with_reducible refine Kd.C_drewN ?_ _) | (with_reducible refine Kd.C_drew ?_))); (case side2 => exact HC0.out); rintro e w' ⟨rfl, ⟨nd, rfl⟩⟩; refine ⟨_, rfl, ?_⟩; have p102 : 0 ≤ (0 : Int) := (by omega); have q102 : 0 < (l0.length : Int) := of_decide_eq_true (by first | (with_reducible assumption) | assumption); obtain ⟨ad102, e102, hx102_0⟩ := Kd.at_int HR0.out 0 p102 q102; cases e102; have qi102 : (0 < l0.length) = True := eq_true (by omega); (try rw [show ((0 : Int)).toNat = 0 from rfl] at hx102_0); (try rw [Addr.add_zero'] at hx102_0); replace p102 := eq_true p102; replace q102 := eq_true q102) | ((with_reducible refine gate_callee (f := 44) rfl ?_); refine goesL_ (some 12) rfl rfl Tryd.func44 (by kernel_rfl) rfl #[.int .i64 (wrap64 (rd l0 0))] rfl (by (try simp only [List.map_toArray, List.map_cons, List.map_nil]); first | done | rfl | (simp only [List.length_drop, List.length_take]; rfl)) ?_; (with_reducible refine (pyxref02_Decimal.calls (wrap64 (rd l0 0)) t103 _ A5.out).mono ?_); rintro e w6 ⟨rfl, hb⟩; refine ⟨_, rfl, ?_⟩; have n0_ := Aside0.mk (below_step (by repeat (first | (with_reducible first | exact HB.out | apply below_alloc | apply pw_below_drewN | apply below_drew1) | exact HB.out)) hb); clear HB; have HB := n0_; clear n0_; (try clear hb); (try clear hb2); (try clear hk); (try clear hi)))
      go_loopg [3, 4] k (fun kq v3 v4 w' => ∃ (x3_1 : ByteArray) (x4_1 : Int), v3 = .string x3_1 ∧ v4 = .int .i64 x4_1 ∧ Aside0 (pyxref09_Text.l0 kq l0 x3_1 x4_1 = some r) ∧ Aside0 (kq ≤ k) ∧ Aside0 (Below w.heap.size w w'))
      case atStart => exact ⟨(t103), (1), (by first | rfl | (simp; done) | (simp [*]; done)), (by first | rfl | (simp; done) | (simp [*]; done)), H', ⟨Nat.le_refl _⟩, ⟨by repeat (first | (with_reducible first | exact HB.out | apply below_alloc | apply pw_below_drewN | apply below_drew1) | exact HB.out)⟩⟩
      case round =>
        clear H'
        try clear p1
        try clear q1
        try clear hx1
        try clear qi1
        try clear c2
        try clear p2
        try clear c3
        try clear c4
        try clear c4b0
        try clear c4b1
        try clear p6
        try clear hx102_0
        try clear p102
        try clear q102
        obtain ⟨x3_1, x4_1, rfl, rfl, HA, HK1, HB⟩ := hrel
        cases gk with
        | zero => exact absurd HA.out (by simp [pyxref09_Text.l0])
        | succ k1 =>
          have H := HA.out
          clear HA
          simp only [pyxref09_Text.l0] at H
          by_cases c7 : x4_1 < (l0.length : Int)
          · rw [if_pos c7] at H
            have c7b0 : decide (x4_1 < (l0.length : Int)) = true := decide_eq_true c7
            clear c7
            by_cases c8 : x3_1.size + 1 ≤ 9223372036854775807
            · rw [if_pos c8] at H
              have c8b0 := eq_true c8
              have c8b1 : decide (x3_1.size + 1 ≤ 9223372036854775807) = true := decide_eq_true c8
              try have c8b2 : (9223372036854775807 < x3_1.size + 1) = False := eq_false (Nat.not_lt.2 c8)
              by_cases c9 : 0 ≤ x4_1
              · rw [if_pos c9] at H
                have c9b0 : decide (0 ≤ x4_1) = true := decide_eq_true c9
                clear c9
                replace H := Option.bind_eq_some_iff.mp H
                obtain ⟨t105, A100, H⟩ := H
                replace H : (if (x3_1 ++ (⟨#[46]⟩ : ByteArray)).size + t105.size ≤ 9223372036854775807 then (pyxref09_Text.l0 k1 l0 ((x3_1 ++ (⟨#[46]⟩ : ByteArray)) ++ t105) (wrap64 (x4_1 + 1))) else (none)) = some r := H
                have A10 := Aside0.mk A100
                clear A100
                by_cases c11 : (x3_1 ++ (⟨#[46]⟩ : ByteArray)).size + t105.size ≤ 9223372036854775807
                · rw [if_pos c11] at H
                  have c11b0 := eq_true c11
                  have c11b1 : decide ((x3_1 ++ (⟨#[46]⟩ : ByteArray)).size + t105.size ≤ 9223372036854775807) = true := decide_eq_true c11
                  try have c11b2 : (9223372036854775807 < (x3_1 ++ (⟨#[46]⟩ : ByteArray)).size + t105.size) = False := eq_false (Nat.not_lt.2 c11)
                  have c11b3 : (9223372036854775807 < x3_1.size + 1 + t105.size) = False := by
                    have hs_ := c11
                    simp only [ByteArray.size_append] at hs_
                    have l0_ : (⟨#[46]⟩ : ByteArray).size = 1 := rfl
                    exact eq_false (by omega)
                  have H' := Aside0.mk H
                  clear H
                  have p104 : 0 ≤ (x4_1 : Int) := of_decide_eq_true (by first | (with_reducible assumption) | assumption)
                  have q104 : x4_1 < (l0.length : Int) := of_decide_eq_true (by first | (with_reducible assumption) | assumption)
                  obtain ⟨ad104, e104, hx104_0⟩ := Kd.at_int HR0.out x4_1 p104 q104
                  obtain rfl : ad102 = ad104 := (by injection e104)
                  replace hx104_0 := (HB.out.cell (World.block_lt_of_cell? w _ hx104_0)).trans hx104_0
                  replace p104 := eq_true p104
                  replace q104 := eq_true q104
                  go_wp2_with (first | ((with_reducible refine gate_callee (f := 44) rfl ?_); refine goesL_ (some 26) rfl rfl Tryd.func44 (by kernel_rfl) rfl #[.int .i64 (wrap64 (rd l0 x4_1))] rfl (by (try simp only [List.map_toArray, List.map_cons, List.map_nil]); first | done | rfl | (simp only [List.length_drop, List.length_take]; rfl)) ?_; (with_reducible refine (pyxref02_Decimal.calls (wrap64 (rd l0 x4_1)) t105 _ A10.out).mono ?_); rintro e w12 ⟨rfl, hb⟩; refine ⟨_, rfl, ?_⟩; have n0_ := Aside0.mk (below_step (by repeat (first | (with_reducible first | exact HB.out | apply below_alloc | apply pw_below_drewN | apply below_drew1) | exact HB.out)) hb); clear HB; have HB := n0_; clear n0_; (try clear hb); (try clear hb2); (try clear hk); (try clear hi)))
                  go_roundg k1
                  case measure => have := HK1.out; omega
                  case rel => exact ⟨((x3_1 ++ (⟨#[46]⟩ : ByteArray)) ++ t105), (wrap64 (x4_1 + 1)), (by first | rfl | (simp; done) | (simp [*]; done)), (by first | rfl | (simp; done) | (simp [*]; done)), H', ⟨by have := HK1.out; omega⟩, ⟨by repeat (first | (with_reducible first | exact HB.out | apply below_alloc | apply pw_below_drewN | apply below_drew1) | exact HB.out)⟩⟩
                · rw [if_neg c11] at H
                  exact absurd H (by simp)
              · rw [if_neg c9] at H
                exact absurd H (by simp)
            · rw [if_neg c8] at H
              exact absurd H (by simp)
          · rw [if_neg c7] at H
            have c7b0 : decide (x4_1 < (l0.length : Int)) = false := decide_eq_false c7
            clear c7
            obtain rfl := Option.some.inj H
            go_wp2
            go_ret
            exact ⟨by first | rfl | (simp [errW_none, errW_some] <;> rfl) | (simp [*, errW_none, errW_some] <;> rfl), by repeat (first | (with_reducible first | exact HB.out | apply below_alloc | apply pw_below_drewN | apply below_drew1) | exact HB.out)⟩
    · rw [if_neg c4] at H
      exact absurd H (by simp)
  · replace c3 := Bool.eq_false_iff.mpr c3
    subst c3
    have H1 : (some (⟨#[]⟩ : ByteArray)) = some r := by rw [if_neg (show ¬ (false = true) by decide)] at H; exact H
    clear H
    have H := H1
    clear H1
    obtain rfl := Option.some.inj H
    go_enter Tryd.func21, Tryd.ntmps21
    go_wp2_with (first | ((with_reducible refine gate_callee (f := 23) rfl ?_); refine goesL_ (some 6) rfl rfl Tryd.func23 (by kernel_rfl) rfl #[.slice A0 l0.length c0] rfl (by (try simp only [List.map_toArray, List.map_cons, List.map_nil]); first | done | rfl | (simp only [List.length_drop, List.length_take]; rfl)) ?_; (with_reducible refine (pyxref09_Valid.calls _ _ l0 false _ ?side1 ?side2 A2.out).mono ?_); (case side1 => repeat (first | exact HR0.out | (with_reducible refine Kd.C_alloc ?_ _) | (with_reducible refine Kd.C_drewN ?_ _) | (with_reducible refine Kd.C_drew ?_))); (case side2 => exact HC0.out); rintro e w' ⟨rfl, ⟨nd, rfl⟩⟩; refine ⟨_, rfl, ?_⟩))
    go_ret
    exact ⟨by first | rfl | (simp [errW_none, errW_some] <;> rfl) | (simp [*, errW_none, errW_some] <;> rfl), by repeat (first | (with_reducible first | exact HB.out | apply below_alloc | apply pw_below_drewN | apply below_drew1) | exact HB.out)⟩

end Go.Proofs.YtjoncjnmhhimhaaDoor.PRefT
end

section
/- pyxref09.Text comes to the same plain function as the program's Text. -/
namespace Go.Proofs.YtjoncjnmhhimhaaDoor.Hand
set_option linter.unusedVariables false
set_option linter.unusedSimpArgs false
open Go.RowKit Go.Proofs.YtjoncjnmhhimhaaDoorW.PrintWords Go.Proofs.YtjoncjnmhhimhaaDoorW.PrintLast Go.Proofs.YtjoncjnmhhimhaaDoorW.PrintMore
open Go.Proofs.YtjoncjnmhhimhaaDoor.Oid

/-- The texts of more numbers, each behind a dot. -/
def dotted (l : List Int) : List UInt8 := l.flatMap fun n => 46 :: Lib.decDigits n.toNat
theorem join_dotted (x : Int) (l : List Int) : Lib.join ((x :: l).map fun n => Lib.decDigits n.toNat) [46] = Lib.decDigits x.toNat ++ dotted l := by
  induction l generalizing x with
  | nil => simp [join_one, dotted]
  | cons y l ih =>
    rw [List.map_cons, List.map_cons, join_cons, ← List.map_cons (f := fun n : Int => Lib.decDigits n.toNat), ih y]
    simp [dotted]
theorem ba_size (l : List UInt8) : (⟨l.toArray⟩ : ByteArray).size = l.length := by
  show l.toArray.size = _
  simp
theorem refText_loop (l : List Int) (hn : l.length ≤ 20) (hp : ∀ x ∈ l, 0 ≤ x ∧ x < 4294967296) : ∀ (d k i : Nat) (acc : List UInt8), i + d = l.length → acc.length ≤ 1000 * (i + 1) → d < k →
    PRefT.pyxref09_Text.l0 k l ⟨acc.toArray⟩ (i : Int) = some ⟨(acc ++ dotted (l.drop i)).toArray⟩ := by
  intro d
  induction d with
  | zero =>
    intro k i acc h1 h2 h3
    obtain ⟨k, rfl⟩ : ∃ m, k = m + 1 := ⟨k - 1, by omega⟩
    have : l.drop i = [] := List.drop_eq_nil_of_le (by omega)
    rw [PRefT.pyxref09_Text.l0, if_neg (by omega), this]
    simp [dotted]
  | succ d ih =>
    intro k i acc h1 h2 h3
    obtain ⟨k, rfl⟩ : ∃ m, k = m + 1 := ⟨k - 1, by omega⟩
    have hlt : i < l.length := by omega
    have hrd : rd l (i : Int) = l[i] := by simp [rd, List.getD, hlt]
    obtain ⟨p0, p1⟩ := hp l[i] (List.getElem_mem hlt)
    have hz := ba_size acc
    have hsz := decB_size l[i].toNat (by omega)
    rw [PRefT.pyxref09_Text.l0, if_pos (by omega), if_pos (by omega), if_pos (by omega), hrd, i64_in _ (by omega) (by omega)]
    unfold pyxref02_Decimal.f
    rw [if_pos ⟨p0, by omega⟩]
    simp only [Option.bind_some]
    have e1 : ((⟨acc.toArray⟩ : ByteArray) ++ (⟨#[46]⟩ : ByteArray)).size = acc.length + 1 := by
      rw [ByteArray.size_append, hz]
      rfl
    rw [if_pos (by omega), i64_in _ (by omega) (by omega)]
    have hd := dec_len l[i].toNat (by omega)
    have := ih k (i + 1) (acc ++ 46 :: Lib.decDigits l[i].toNat) (by omega) (by simp; omega) (by omega)
    rw [show ((i + 1 : Nat) : Int) = (i : Int) + 1 from by omega] at this
    have e2 : (⟨acc.toArray⟩ : ByteArray) ++ (⟨#[46]⟩ : ByteArray) ++ decB l[i].toNat = ⟨(acc ++ 46 :: Lib.decDigits l[i].toNat).toArray⟩ := by
      apply ByteArray.ext
      simp [decB]
    have e3 : dotted (l.drop i) = 46 :: Lib.decDigits l[i].toNat ++ dotted (l.drop (i + 1)) := by
      rw [List.drop_eq_getElem_cons hlt, dotted, List.flatMap_cons]
      rfl
    rw [e2, this, e3, List.append_assoc]

theorem refText_comes (l : List Int) (hp : ∀ x ∈ l, 0 ≤ x) : PRefT.pyxref09_Text.f 22 l = some (textB l) := by
  unfold PRefT.pyxref09_Text.f pyxref09_Valid.f textB
  simp only [Option.bind_some]
  by_cases hv : validB l = true
  · rw [if_pos hv, if_pos hv]
    obtain ⟨h1, h2, _, _, h5⟩ := valid_parts hv
    have hpp : ∀ x ∈ l, 0 ≤ x ∧ x < 4294967296 := fun x hx => ⟨hp x hx, by have := h5 x hx; omega⟩
    match l, h1, h2, hpp with
    | x :: l, h1, h2, hpp =>
      obtain ⟨p0, p1⟩ := hpp x (by simp)
      rw [if_pos (by simp), show rd (x :: l) 0 = x from rfl, i64_in _ (by omega) (by omega)]
      unfold pyxref02_Decimal.f
      rw [if_pos ⟨p0, by omega⟩]
      simp only [Option.bind_some]
      have hd := dec_len x.toNat (by omega)
      have := refText_loop (x :: l) h2 hpp l.length 22 1 (Lib.decDigits x.toNat) (by simp; omega) (by omega) (by simp at h2; omega)
      rw [show ((1 : Nat) : Int) = 1 from rfl] at this
      show PRefT.pyxref09_Text.l0 22 (x :: l) ⟨(Lib.decDigits x.toNat).toArray⟩ 1 = _
      rw [this]
      unfold textL
      rw [join_dotted]
      rfl
  · rw [if_neg hv, if_neg hv]

def pyxref09_Text.f (l0 : List Int) : Option ByteArray := oid_Text.f l0
theorem pyxref09_Text.calls (A0 : Option Addr) (c0 : Nat) (l0 : List Int) (r : ByteArray) (w : World) (HLd : LaidOk w) (hr0 : Kd.C (Kd.int .u32) w A0 l0.length l0) (hc0 : l0.length ≤ c0) (h : pyxref09_Text.f l0 = some r) :
    Calls Tryd.prog 21 #[.slice A0 l0.length c0] w fun e w' => e = .returned (.string r) ∧ Below w.heap.size w w' := by
  unfold pyxref09_Text.f oid_Text.f at h
  by_cases hp : (l0.all fun x => decide (0 ≤ x)) = true
  · rw [if_pos hp] at h
    refine PRefT.pyxref09_Text.calls 22 A0 c0 l0 r w hr0 hc0 ?_
    rw [refText_comes l0 (fun x hx => by simpa using List.all_eq_true.1 hp x hx)]
    exact h
  · rw [if_neg hp] at h
    cases h

end Go.Proofs.YtjoncjnmhhimhaaDoor.Hand
end

section
-- Written by the kit's print.py, driven by this place's wip/tools/myprint.py. Not trusted: Lean checks it.
namespace Go.Proofs.YtjoncjnmhhimhaaDoor.PT13s
open Go.RowKit Go.Proofs.YtjoncjnmhhimhaaDoor.Hand Go.Proofs.YtjoncjnmhhimhaaDoorW.PrintWords Go.Proofs.YtjoncjnmhhimhaaDoorW.PrintLast Go.Proofs.YtjoncjnmhhimhaaDoorW.PrintMore
attribute [local go_sem] max2_int min2_int max_two min_two max_three min_three max_four min_four   -- for this text's walks alone
set_option linter.unusedVariables false
set_option linter.unusedSimpArgs false



def errW : Option Int → Value
  | none => .nilIface
  | some c => .iface 0 (.int .i64 c)
theorem errW_none : errW none = .nilIface := rfl
theorem errW_some (c : Int) : errW (some c) = .iface 0 (.int .i64 c) := rfl

-- the values' own types
def rd_L1 (xs : List (List Int)) (i : Int) : (List Int) := xs.getD i.toNat ([] : List Int)
theorem at_L1 {w : World} {A : Option Addr} {n : Nat} {xs : List (List Int)} (h : Kd.C (Kd.slice 27 (Kd.int .u32)) w A n xs) (i : Int) (h0 : 0 ≤ i) (h1 : i < n) : ∃ ad A0 c0, A = some ad ∧ w.cell? (ad.add i.toNat) = some (.slice A0 (rd_L1 xs i).length c0) ∧ (rd_L1 xs i).length ≤ c0 ∧ (Kd.int .u32).C w A0 (rd_L1 xs i).length (rd_L1 xs i) := by
  obtain ⟨ad, c, e, _, hK, hc0⟩ := Kd.C_get h ([] : List Int) i h0 h1
  have hc : ∀ j u, c[j]? = some u → w.cell? (ad.add (i.toNat * 1 + j)) = some u := hc0
  obtain ⟨A0, c0, rfl, l0, g0⟩ := hK
  exact ⟨ad, A0, c0, e, by have hq := hc 0 _ rfl; rwa [Nat.mul_one, Nat.add_zero] at hq, l0, g0⟩

end Go.Proofs.YtjoncjnmhhimhaaDoor.PT13s
namespace Go.Proofs.YtjoncjnmhhimhaaDoor.PT13s
open Go.RowKit Go.Proofs.YtjoncjnmhhimhaaDoor.Hand Go.Proofs.YtjoncjnmhhimhaaDoorW.PrintWords Go.Proofs.YtjoncjnmhhimhaaDoorW.PrintLast Go.Proofs.YtjoncjnmhhimhaaDoorW.PrintMore
attribute [local go_sem] max2_int min2_int max_two min_two max_three min_three max_four min_four   -- for this text's walks alone
set_option linter.unusedVariables false
set_option linter.unusedSimpArgs false

-- BY CONTRACT: function 21 (pyxref09_Text)

/-! ### pyxlaw13_same: function 26 -/
def pyxlaw13_same.f (a0_0 : Int) (a0_1 : Int) (a0_2 : ByteArray) (a0_3 : Int) (a0_4 : Int) (a0_5 : Int) (a0_6 : Int) (l0_7 : List Int) (a0_8 : Int) (a0_9 : Int) (a1_0 : Int) (a1_1 : Int) (a1_2 : ByteArray) (a1_3 : Int) (a1_4 : Int) (a1_5 : Int) (a1_6 : Int) (a1_7 : ByteArray) (a1_8 : Int) (a1_9 : Int) : Option (Bool) := if a0_0 = a1_0 then (if a0_1 = a1_1 then (if a0_2.toList = a1_2.toList then (if a0_3 = a1_3 then (if a0_4 = a1_4 then (if a0_5 = a1_5 then (if a0_6 = a1_6 then ((pyxref09_Text.f l0_7).bind fun t103 => (if t103.toList = a1_7.toList then (if a0_8 = a1_8 then (some (a0_9 == a1_9)) else (none)) else (none))) else (none)) else (none)) else (none)) else (none)) else (none)) else (none)) else (none)
def pyxlaw13_same.T1 : Bool × List (List Nat × List Nat) := (true, [([], []), ([0], [0]), ([], []), ([2], [2]), ([1, 3], [1, 3]), ([4], [4]), ([5], [5]), ([6, 5], [5, 6]), ([5], [5]), ([8, 5], [5, 8]), ([7, 9, 5], [5, 7, 9]), ([5, 10], [5, 10]), ([11, 5], [11]), ([12], [12]), ([13, 12], [12, 13]), ([12], [12]), ([15, 12], [12, 15]), ([14, 16, 12], [12, 14, 16]), ([12, 17], [12, 17]), ([18, 12], [18]), ([19], [19]), ([20, 19], [19, 20]), ([19], [19]), ([22, 19], [19, 22]), ([21, 23, 19], [19, 21, 23]), ([19, 24], [19, 24]), ([25, 19], [25]), ([26], [26]), ([27, 26], [26, 27]), ([26], [26]), ([29, 26], [26, 29]), ([28, 30, 26], [26, 28, 30]), ([26, 31], [26, 31]), ([32, 26], [32]), ([33], [33]), ([34, 33], [33, 34]), ([33], [33]), ([36, 33], [33, 36]), ([35, 37, 33], [33, 35, 37]), ([33, 38], [33, 38]), ([39, 33], [39]), ([40], [40]), ([41, 40], [40, 41]), ([40], [40]), ([43, 40], [40, 43]), ([42, 44, 40], [40, 42, 44]), ([40, 45], [40, 45]), ([46, 40], [46]), ([47], [47]), ([48, 47], [47, 48]), ([49, 47, 47], [47, 49]), ([47], [47]), ([51, 47], [47, 51]), ([50, 52, 47], [47, 50, 52]), ([47, 53], [47, 53]), ([54, 50], [54]), ([55], [55]), ([56, 55], [55, 56]), ([55], [55]), ([58, 55], [55, 58]), ([57, 59, 55], [55, 57, 59]), ([55, 60], [55, 60]), ([61, 55], [61]), ([62], [62]), ([63, 62], [62, 63]), ([62], [62]), ([65, 62], [62, 65]), ([64, 66, 62], [62, 64, 66]), ([62, 67], [62, 67]), ([68, 62, 0, 1, 2, 3, 4, 5, 6, 7, 8, 9, 10, 11, 12, 13, 14, 15, 16, 17, 18, 19, 20, 21, 22, 23, 24, 25, 26, 27, 28, 29, 30, 31, 32, 33, 34, 35, 36, 37, 38, 39, 40, 41, 42, 43, 44, 45, 46, 47, 48, 49, 50, 51, 52, 53, 54, 55, 56, 57, 58, 59, 60, 61, 62, 63, 64, 65, 66, 67, 68], [68])])
def pyxlaw13_same.B1 : List Nat := [0, 1, 0, 4, 15, 31, 63, 127, 63, 319, 1023, 2047, 4095, 8191, 16383, 8191, 40959, 131071, 262143, 524287, 1048575, 2097151, 1048575, 5242879, 16777215, 33554431, 67108863, 134217727, 268435455, 134217727, 671088639, 2147483647, 4294967295, 8589934591, 17179869183, 34359738367, 17179869183, 85899345919, 274877906943, 549755813887, 1099511627775, 2199023255551, 4398046511103, 2199023255551, 10995116277759, 35184372088831, 70368744177663, 140737488355327, 281474976710655, 562949953421311, 1125899906842623, 281474976710655, 2533274790395903, 9007199254740991, 18014398509481983, 36028797018963967, 72057594037927935, 144115188075855871, 72057594037927935, 360287970189639679, 1152921504606846975, 2305843009213693951, 4611686018427387903, 9223372036854775807, 18446744073709551615, 9223372036854775807, 46116860184273879039, 147573952589676412927, 295147905179352825855, 590295810358705651711]
theorem pyxlaw13_same.tab1 : rtab .any (opsOf Tryd.f26 1) = pyxlaw13_same.T1 := by kernel_rfl
theorem pyxlaw13_same.bits1 : waitsOk pyxlaw13_same.T1.2 pyxlaw13_same.B1 = true := by kernel_rfl
set_option maxHeartbeats 8000000 in
set_option maxRecDepth 100000 in
theorem pyxlaw13_same.calls (a0_0 : Int) (a0_1 : Int) (a0_2 : ByteArray) (a0_3 : Int) (a0_4 : Int) (a0_5 : Int) (a0_6 : Int) (A0_7 : Option Addr) (c0_7 : Nat) (l0_7 : List Int) (a0_8 : Int) (a0_9 : Int) (a1_0 : Int) (a1_1 : Int) (a1_2 : ByteArray) (a1_3 : Int) (a1_4 : Int) (a1_5 : Int) (a1_6 : Int) (a1_7 : ByteArray) (a1_8 : Int) (a1_9 : Int) (r : Bool) (w : World) (HLd : LaidOk w) (hr0_7 : Kd.C (Kd.int .u32) w A0_7 l0_7.length l0_7) (hc0_7 : l0_7.length ≤ c0_7) (h : pyxlaw13_same.f a0_0 a0_1 a0_2 a0_3 a0_4 a0_5 a0_6 l0_7 a0_8 a0_9 a1_0 a1_1 a1_2 a1_3 a1_4 a1_5 a1_6 a1_7 a1_8 a1_9 = some r) :
    Calls Tryd.prog 26 #[.agg #[.int .i64 a0_0, .int .i64 a0_1, .string a0_2, .int .i64 a0_3, .int .i64 a0_4, .int .i64 a0_5, .int .i64 a0_6, .slice A0_7 l0_7.length c0_7, .int .i64 a0_8, .int .u32 a0_9], .agg #[.int .i64 a1_0, .int .i64 a1_1, .string a1_2, .int .i64 a1_3, .int .i64 a1_4, .int .i64 a1_5, .int .i64 a1_6, .string a1_7, .int .i64 a1_8, .int .u32 a1_9]] w fun e w' => e = .returned (.bool r) ∧ Below w.heap.size w w' := by
  have hu37 := Tryd.underlying37
  have hu42 := Tryd.underlying42
  have HR0_7 := Aside0.mk hr0_7
  have HC0_7 := Aside0.mk hc0_7
  clear hr0_7 hc0_7
  have HB := Aside0.mk (Below.refl w.heap.size w)
  have H : (if a0_0 = a1_0 then (if a0_1 = a1_1 then (if a0_2.toList = a1_2.toList then (if a0_3 = a1_3 then (if a0_4 = a1_4 then (if a0_5 = a1_5 then (if a0_6 = a1_6 then ((pyxref09_Text.f l0_7).bind fun t103 => (if t103.toList = a1_7.toList then (if a0_8 = a1_8 then (some (a0_9 == a1_9)) else (none)) else (none))) else (none)) else (none)) else (none)) else (none)) else (none)) else (none)) else (none)) = some r := h
  clear h
  by_cases c3 : a0_0 = a1_0
  · rw [if_pos c3] at H
    have c3b0 : (a0_0 == a1_0) = true := beq_iff_eq.mpr c3
    have c3b1 : (a0_0 != a1_0) = false := bne_eq_false_iff_eq.mpr c3
    clear c3
    by_cases c4 : a0_1 = a1_1
    · rw [if_pos c4] at H
      have c4b0 : (a0_1 == a1_1) = true := beq_iff_eq.mpr c4
      have c4b1 : (a0_1 != a1_1) = false := bne_eq_false_iff_eq.mpr c4
      clear c4
      by_cases c5 : a0_2.toList = a1_2.toList
      · rw [if_pos c5] at H
        have c5b0 : (a0_2.toList == a1_2.toList) = true := beq_iff_eq.mpr c5
        have c5b1 : (a0_2.toList != a1_2.toList) = false := bne_eq_false_iff_eq.mpr c5
        clear c5
        by_cases c6 : a0_3 = a1_3
        · rw [if_pos c6] at H
          have c6b0 : (a0_3 == a1_3) = true := beq_iff_eq.mpr c6
          have c6b1 : (a0_3 != a1_3) = false := bne_eq_false_iff_eq.mpr c6
          clear c6
          by_cases c7 : a0_4 = a1_4
          · rw [if_pos c7] at H
            have c7b0 : (a0_4 == a1_4) = true := beq_iff_eq.mpr c7
            have c7b1 : (a0_4 != a1_4) = false := bne_eq_false_iff_eq.mpr c7
            clear c7
            by_cases c8 : a0_5 = a1_5
            · rw [if_pos c8] at H
              have c8b0 : (a0_5 == a1_5) = true := beq_iff_eq.mpr c8
              have c8b1 : (a0_5 != a1_5) = false := bne_eq_false_iff_eq.mpr c8
              clear c8
              by_cases c9 : a0_6 = a1_6
              · rw [if_pos c9] at H
                have c9b0 : (a0_6 == a1_6) = true := beq_iff_eq.mpr c9
                have c9b1 : (a0_6 != a1_6) = false := bne_eq_false_iff_eq.mpr c9
                clear c9
                replace H := Option.bind_eq_some_iff.mp H
                obtain ⟨t103, A100, H⟩ := H
                replace H : (if t103.toList = a1_7.toList then (if a0_8 = a1_8 then (some (a0_9 == a1_9)) else (none)) else (none)) = some r := H
                have A10 := Aside0.mk A100
                clear A100
                by_cases c11 : t103.toList = a1_7.toList
                · rw [if_pos c11] at H
                  have c11b0 : (t103.toList == a1_7.toList) = true := beq_iff_eq.mpr c11
                  have c11b1 : (t103.toList != a1_7.toList) = false := bne_eq_false_iff_eq.mpr c11
                  clear c11
                  by_cases c12 : a0_8 = a1_8
                  · rw [if_pos c12] at H
                    have c12b0 : (a0_8 == a1_8) = true := beq_iff_eq.mpr c12
                    have c12b1 : (a0_8 != a1_8) = false := bne_eq_false_iff_eq.mpr c12
                    clear c12
                    obtain rfl := Option.some.inj H
                    go_enter Tryd.func26, Tryd.ntmps26
                    try go_wp2_with (first | ((with_reducible refine gate_dst (N := 2) rfl ?_); refine box_event ?hg (N := 2) ?hd (cs := #[.int .i64 a0_0, .int .i64 a0_1, .string a0_2, .int .i64 a0_3, .int .i64 a0_4, .int .i64 a0_5, .int .i64 a0_6, .slice A0_7 l0_7.length c0_7, .int .i64 a0_8, .int .u32 a0_9]) (t := 37) ?hr ?_; (case hd => rfl); (case hg => rfl); (case hr => first | (go_simp; done) | (go_simp; rfl)); intro gb101 hg w13 hbox hb; have n0_ := Aside0.mk (below_step (by repeat (first | (with_reducible first | exact HB.out | apply below_alloc | apply pw_below_drewN | apply below_drew1) | exact HB.out)) hb); have n1_ := Aside0.mk (hbox); have n2_ := Aside0.mk ((by rw [hg]; exact (below_size (by repeat (first | (with_reducible first | exact HB.out | apply below_alloc | apply pw_below_drewN | apply below_drew1) | exact HB.out))) : w.heap.size ≤ gb101)); have n3_ := Aside0.mk ((by rw [hg]; exact (below_size (by repeat (first | (with_reducible first | exact HB.out | apply below_alloc | apply pw_below_drewN | apply below_drew1) | exact HB.out))) : w.heap.size ≤ gb101)); clear HB; have HB := n0_; have BK101 := n1_; have GW101 := n2_; have GE101 := n3_; clear n0_ n1_ n2_ n3_; clear hb hbox hg) | ((with_reducible refine gate_dst (N := 3) rfl ?_); refine box_event ?hg (N := 3) ?hd (cs := #[.int .i64 a1_0, .int .i64 a1_1, .string a1_2, .int .i64 a1_3, .int .i64 a1_4, .int .i64 a1_5, .int .i64 a1_6, .string a1_7, .int .i64 a1_8, .int .u32 a1_9]) (t := 42) ?hr ?_; (case hd => rfl); (case hg => rfl); (case hr => first | (go_simp; done) | (go_simp; rfl)); intro gb102 hg w14 hbox hb; have n0_ := Aside0.mk (blk_below (g := gb101) (o := .cells #[.int .i64 a0_0, .int .i64 a0_1, .string a0_2, .int .i64 a0_3, .int .i64 a0_4, .int .i64 a0_5, .int .i64 a0_6, .slice A0_7 l0_7.length c0_7, .int .i64 a0_8, .int .u32 a0_9] 37 (0, 0)) (by (with_reducible repeat (first | refine blk_drewN ?_ _ | refine blk_drew ?_ | refine blk_alloc ?_ _)); exact BK101.out) hb); have n1_ := Aside0.mk (below_step (by repeat (first | (with_reducible first | exact HB.out | apply below_alloc | apply pw_below_drewN | apply below_drew1 | refine below_set ?_ GE101.out) | exact HB.out)) hb); have n2_ := Aside0.mk (hbox); have n3_ := Aside0.mk ((by rw [hg]; exact (below_size (by repeat (first | (with_reducible first | exact HB.out | apply below_alloc | apply pw_below_drewN | apply below_drew1 | refine below_set ?_ GE101.out) | exact HB.out))) : w.heap.size ≤ gb102)); have n4_ := Aside0.mk ((by rw [hg]; exact (below_size (by repeat (first | (with_reducible first | exact HB.out | apply below_alloc | apply pw_below_drewN | apply below_drew1 | refine below_set ?_ GE101.out) | exact HB.out))) : w.heap.size ≤ gb102)); have n5_ := Aside0.mk ((by rw [hg]; exact Nat.ne_of_lt (blk_lt (g := gb101) (o := .cells #[.int .i64 a0_0, .int .i64 a0_1, .string a0_2, .int .i64 a0_3, .int .i64 a0_4, .int .i64 a0_5, .int .i64 a0_6, .slice A0_7 l0_7.length c0_7, .int .i64 a0_8, .int .u32 a0_9] 37 (0, 0)) (by (with_reducible repeat (first | refine blk_drewN ?_ _ | refine blk_drew ?_ | refine blk_alloc ?_ _)); exact BK101.out)) : gb101 ≠ gb102)); have n6_ := Aside0.mk ((by rw [hg]; exact Nat.ne_of_gt (blk_lt (g := gb101) (o := .cells #[.int .i64 a0_0, .int .i64 a0_1, .string a0_2, .int .i64 a0_3, .int .i64 a0_4, .int .i64 a0_5, .int .i64 a0_6, .slice A0_7 l0_7.length c0_7, .int .i64 a0_8, .int .u32 a0_9] 37 (0, 0)) (by (with_reducible repeat (first | refine blk_drewN ?_ _ | refine blk_drew ?_ | refine blk_alloc ?_ _)); exact BK101.out)) : gb102 ≠ gb101)); clear BK101; clear HB; have BK101 := n0_; have HB := n1_; have BK102 := n2_; have GW102 := n3_; have GE102 := n4_; have NB101_102 := n5_; have NB102_101 := n6_; clear n0_ n1_ n2_ n3_ n4_ n5_ n6_; clear hb hbox hg))
                    have n0_ := Aside0.mk (blk_drew BK101.out)
                    have n1_ := Aside0.mk (blk_drew BK102.out)
                    have n2_ := Aside0.mk (below_drew1 HB.out)
                    clear BK101
                    clear BK102
                    clear HB
                    have BK101 := n0_
                    have BK102 := n1_
                    have HB := n2_
                    clear n0_ n1_ n2_
                    refine start_ (n := 70) (S := fun w' => w'.cell? ⟨gb101, 0, none⟩ = some (.int .i64 a0_0) ∧ w'.cell? ⟨gb101, 1, none⟩ = some (.int .i64 a0_1) ∧ w'.cell? ⟨gb101, 2, none⟩ = some (.string a0_2) ∧ w'.cell? ⟨gb101, 3, none⟩ = some (.int .i64 a0_3) ∧ w'.cell? ⟨gb101, 4, none⟩ = some (.int .i64 a0_4) ∧ w'.cell? ⟨gb101, 5, none⟩ = some (.int .i64 a0_5) ∧ w'.cell? ⟨gb101, 6, none⟩ = some (.int .i64 a0_6) ∧ w'.cell? ⟨gb101, 7, none⟩ = some (.slice A0_7 l0_7.length c0_7) ∧ w'.cell? ⟨gb101, 8, none⟩ = some (.int .i64 a0_8) ∧ w'.cell? ⟨gb101, 9, none⟩ = some (.int .u32 a0_9) ∧ w'.cell? ⟨gb102, 0, none⟩ = some (.int .i64 a1_0) ∧ w'.cell? ⟨gb102, 1, none⟩ = some (.int .i64 a1_1) ∧ w'.cell? ⟨gb102, 2, none⟩ = some (.string a1_2) ∧ w'.cell? ⟨gb102, 3, none⟩ = some (.int .i64 a1_3) ∧ w'.cell? ⟨gb102, 4, none⟩ = some (.int .i64 a1_4) ∧ w'.cell? ⟨gb102, 5, none⟩ = some (.int .i64 a1_5) ∧ w'.cell? ⟨gb102, 6, none⟩ = some (.int .i64 a1_6) ∧ w'.cell? ⟨gb102, 7, none⟩ = some (.string a1_7) ∧ w'.cell? ⟨gb102, 8, none⟩ = some (.int .i64 a1_8) ∧ w'.cell? ⟨gb102, 9, none⟩ = some (.int .u32 a1_9)) (ds := []) #[false, false, false, false, false, false, false, false, false, false, false, false, false, false, false, false, false, false, false, false, false, false, false, false, false, false, false, false, false, false, false, false, false, false, false, false, false, false, false, false, false, false, false, false, false, false, false, false, false, false, false, false, false, false, false, false, false, false, false, false, false, false, false, false, false, false, false, false, false, false] (by kernel_rfl) rfl rfl ⟨(blk_cell BK101.out 0).trans rfl, (blk_cell BK101.out 1).trans rfl, (blk_cell BK101.out 2).trans rfl, (blk_cell BK101.out 3).trans rfl, (blk_cell BK101.out 4).trans rfl, (blk_cell BK101.out 5).trans rfl, (blk_cell BK101.out 6).trans rfl, (blk_cell BK101.out 7).trans rfl, (blk_cell BK101.out 8).trans rfl, (blk_cell BK101.out 9).trans rfl, (blk_cell BK102.out 0).trans rfl, (blk_cell BK102.out 1).trans rfl, (blk_cell BK102.out 2).trans rfl, (blk_cell BK102.out 3).trans rfl, (blk_cell BK102.out 4).trans rfl, (blk_cell BK102.out 5).trans rfl, (blk_cell BK102.out 6).trans rfl, (blk_cell BK102.out 7).trans rfl, (blk_cell BK102.out 8).trans rfl, (blk_cell BK102.out 9).trans rfl⟩ (fun hHeld => ?_); refine with_tabW pyxlaw13_same.tab1 pyxlaw13_same.bits1 (fun HT_ HW_ => ?_)
                    generalize w14.drew = w15 at BK101 BK102 HB hHeld ⊢
                    refine pure_ (i := 0) (N := some 5) (v := ?_) (a' := ?_) #[true, false, false, false, false, false, false, false, false, false, false, false, false, false, false, false, false, false, false, false, false, false, false, false, false, false, false, false, false, false, false, false, false, false, false, false, false, false, false, false, false, false, false, false, false, false, false, false, false, false, false, false, false, false, false, false, false, false, false, false, false, false, false, false, false, false, false, false, false, false] rfl rfl (any_of HT_.out (by kernel_rfl)) (fun _ _ _ h => h) (Or.inl ⟨by rfl, ?_⟩) ?_ ?_
                    rotate_left
                    · intro w'
                      go_simp
                      with_reducible rfl
                    rotate_left
                    · simp only [Act.put, List.setIfInBounds_toArray, List.set_cons_zero, List.set_cons_succ, i64_w, i32_w]
                      rfl
                    refine pure_ (i := 2) (N := some 7) (v := ?_) (a' := ?_) #[true, false, true, false, false, false, false, false, false, false, false, false, false, false, false, false, false, false, false, false, false, false, false, false, false, false, false, false, false, false, false, false, false, false, false, false, false, false, false, false, false, false, false, false, false, false, false, false, false, false, false, false, false, false, false, false, false, false, false, false, false, false, false, false, false, false, false, false, false, false] rfl rfl (any_of HT_.out (by kernel_rfl)) (fun _ _ _ h => h) (Or.inl ⟨by rfl, ?_⟩) ?_ ?_
                    rotate_left
                    · intro w'
                      go_simp
                      with_reducible rfl
                    rotate_left
                    · simp only [Act.put, List.setIfInBounds_toArray, List.set_cons_zero, List.set_cons_succ, i64_w, i32_w]
                      rfl
                    refine take_ (i := 1) (N := some 6) (v := ?_) (a' := ?_) #[true, true, true, false, false, false, false, false, false, false, false, false, false, false, false, false, false, false, false, false, false, false, false, false, false, false, false, false, false, false, false, false, false, false, false, false, false, false, false, false, false, false, false, false, false, false, false, false, false, false, false, false, false, false, false, false, false, false, false, false, false, false, false, false, false, false, false, false, false, false] rfl rfl (take_ofW HT_.out HW_.out (by kernel_rfl)) (fun _ _ _ h => h) (Or.inl ⟨by rfl, ?_⟩) hHeld ?_ ?_
                    rotate_left
                    · rintro w' ⟨s0, s1, s2, s3, s4, s5, s6, s7, s8, s9, s10, s11, s12, s13, s14, s15, s16, s17, s18, s19⟩
                      go_simp
                      with_reducible rfl
                    rotate_left
                    · simp only [Act.put, List.setIfInBounds_toArray, List.set_cons_zero, List.set_cons_succ, i64_w, i32_w]
                      rfl
                    refine take_ (i := 3) (N := some 8) (v := ?_) (a' := ?_) #[true, true, true, true, false, false, false, false, false, false, false, false, false, false, false, false, false, false, false, false, false, false, false, false, false, false, false, false, false, false, false, false, false, false, false, false, false, false, false, false, false, false, false, false, false, false, false, false, false, false, false, false, false, false, false, false, false, false, false, false, false, false, false, false, false, false, false, false, false, false] rfl rfl (take_ofW HT_.out HW_.out (by kernel_rfl)) (fun _ _ _ h => h) (Or.inl ⟨by rfl, ?_⟩) hHeld ?_ ?_
                    rotate_left
                    · rintro w' ⟨s0, s1, s2, s3, s4, s5, s6, s7, s8, s9, s10, s11, s12, s13, s14, s15, s16, s17, s18, s19⟩
                      go_simp
                      with_reducible rfl
                    rotate_left
                    · simp only [Act.put, List.setIfInBounds_toArray, List.set_cons_zero, List.set_cons_succ, i64_w, i32_w]
                      rfl
                    refine pure_ (i := 4) (N := some 9) (v := ?_) (a' := ?_) #[true, true, true, true, true, false, false, false, false, false, false, false, false, false, false, false, false, false, false, false, false, false, false, false, false, false, false, false, false, false, false, false, false, false, false, false, false, false, false, false, false, false, false, false, false, false, false, false, false, false, false, false, false, false, false, false, false, false, false, false, false, false, false, false, false, false, false, false, false, false] rfl rfl (any_of HT_.out (by kernel_rfl)) (fun _ _ _ h => h) (Or.inl ⟨by rfl, ?_⟩) ?_ ?_
                    rotate_left
                    · intro w'
                      go_simp
                      with_reducible rfl
                    rotate_left
                    · simp only [Act.put, List.setIfInBounds_toArray, List.set_cons_zero, List.set_cons_succ, i64_w, i32_w]
                      rfl
                    refine pure_ (i := 5) (N := some 10) (v := ?_) (a' := ?_) #[true, true, true, true, true, true, false, false, false, false, false, false, false, false, false, false, false, false, false, false, false, false, false, false, false, false, false, false, false, false, false, false, false, false, false, false, false, false, false, false, false, false, false, false, false, false, false, false, false, false, false, false, false, false, false, false, false, false, false, false, false, false, false, false, false, false, false, false, false, false] rfl rfl (any_of HT_.out (by kernel_rfl)) (fun _ _ _ h => h) (Or.inl ⟨by rfl, ?_⟩) ?_ ?_
                    rotate_left
                    · intro w'
                      go_simp
                      with_reducible rfl
                    rotate_left
                    · simp only [Act.put, List.setIfInBounds_toArray, List.set_cons_zero, List.set_cons_succ, i64_w, i32_w]
                      rfl
                    refine pure_ (i := 6) (N := some 11) (v := ?_) (a' := ?_) #[true, true, true, true, true, true, true, false, false, false, false, false, false, false, false, false, false, false, false, false, false, false, false, false, false, false, false, false, false, false, false, false, false, false, false, false, false, false, false, false, false, false, false, false, false, false, false, false, false, false, false, false, false, false, false, false, false, false, false, false, false, false, false, false, false, false, false, false, false, false] rfl rfl (any_of HT_.out (by kernel_rfl)) (fun _ _ _ h => h) (Or.inl ⟨by rfl, ?_⟩) ?_ ?_
                    rotate_left
                    · intro w'
                      go_simp
                      with_reducible rfl
                    rotate_left
                    · simp only [Act.put, List.setIfInBounds_toArray, List.set_cons_zero, List.set_cons_succ, i64_w, i32_w]
                      rfl
                    refine pure_ (i := 8) (N := some 13) (v := ?_) (a' := ?_) #[true, true, true, true, true, true, true, false, true, false, false, false, false, false, false, false, false, false, false, false, false, false, false, false, false, false, false, false, false, false, false, false, false, false, false, false, false, false, false, false, false, false, false, false, false, false, false, false, false, false, false, false, false, false, false, false, false, false, false, false, false, false, false, false, false, false, false, false, false, false] rfl rfl (any_of HT_.out (by kernel_rfl)) (fun _ _ _ h => h) (Or.inl ⟨by rfl, ?_⟩) ?_ ?_
                    rotate_left
                    · intro w'
                      go_simp
                      with_reducible rfl
                    rotate_left
                    · simp only [Act.put, List.setIfInBounds_toArray, List.set_cons_zero, List.set_cons_succ, i64_w, i32_w]
                      rfl
                    refine take_ (i := 7) (N := some 12) (v := ?_) (a' := ?_) #[true, true, true, true, true, true, true, true, true, false, false, false, false, false, false, false, false, false, false, false, false, false, false, false, false, false, false, false, false, false, false, false, false, false, false, false, false, false, false, false, false, false, false, false, false, false, false, false, false, false, false, false, false, false, false, false, false, false, false, false, false, false, false, false, false, false, false, false, false, false] rfl rfl (take_ofW HT_.out HW_.out (by kernel_rfl)) (fun _ _ _ h => h) (Or.inl ⟨by rfl, ?_⟩) hHeld ?_ ?_
                    rotate_left
                    · rintro w' ⟨s0, s1, s2, s3, s4, s5, s6, s7, s8, s9, s10, s11, s12, s13, s14, s15, s16, s17, s18, s19⟩
                      go_simp
                      with_reducible rfl
                    rotate_left
                    · simp only [Act.put, List.setIfInBounds_toArray, List.set_cons_zero, List.set_cons_succ, i64_w, i32_w]
                      rfl
                    refine take_ (i := 9) (N := some 14) (v := ?_) (a' := ?_) #[true, true, true, true, true, true, true, true, true, true, false, false, false, false, false, false, false, false, false, false, false, false, false, false, false, false, false, false, false, false, false, false, false, false, false, false, false, false, false, false, false, false, false, false, false, false, false, false, false, false, false, false, false, false, false, false, false, false, false, false, false, false, false, false, false, false, false, false, false, false] rfl rfl (take_ofW HT_.out HW_.out (by kernel_rfl)) (fun _ _ _ h => h) (Or.inl ⟨by rfl, ?_⟩) hHeld ?_ ?_
                    rotate_left
                    · rintro w' ⟨s0, s1, s2, s3, s4, s5, s6, s7, s8, s9, s10, s11, s12, s13, s14, s15, s16, s17, s18, s19⟩
                      go_simp
                      with_reducible rfl
                    rotate_left
                    · simp only [Act.put, List.setIfInBounds_toArray, List.set_cons_zero, List.set_cons_succ, i64_w, i32_w]
                      rfl
                    refine pure_ (i := 10) (N := some 15) (v := ?_) (a' := ?_) #[true, true, true, true, true, true, true, true, true, true, true, false, false, false, false, false, false, false, false, false, false, false, false, false, false, false, false, false, false, false, false, false, false, false, false, false, false, false, false, false, false, false, false, false, false, false, false, false, false, false, false, false, false, false, false, false, false, false, false, false, false, false, false, false, false, false, false, false, false, false] rfl rfl (any_of HT_.out (by kernel_rfl)) (fun _ _ _ h => h) (Or.inl ⟨by rfl, ?_⟩) ?_ ?_
                    rotate_left
                    · intro w'
                      go_simp
                      with_reducible rfl
                    rotate_left
                    · simp only [Act.put, List.setIfInBounds_toArray, List.set_cons_zero, List.set_cons_succ, i64_w, i32_w]
                      rfl
                    refine pure_ (i := 11) (N := some 16) (v := ?_) (a' := ?_) #[true, true, true, true, true, true, true, true, true, true, true, true, false, false, false, false, false, false, false, false, false, false, false, false, false, false, false, false, false, false, false, false, false, false, false, false, false, false, false, false, false, false, false, false, false, false, false, false, false, false, false, false, false, false, false, false, false, false, false, false, false, false, false, false, false, false, false, false, false, false] rfl rfl (any_of HT_.out (by kernel_rfl)) (fun _ _ _ h => h) (Or.inl ⟨by rfl, ?_⟩) ?_ ?_
                    rotate_left
                    · intro w'
                      go_simp
                      with_reducible rfl
                    rotate_left
                    · simp only [Act.put, List.setIfInBounds_toArray, List.set_cons_zero, List.set_cons_succ, i64_w, i32_w]
                      rfl
                    refine pure_ (i := 12) (N := some 17) (v := ?_) (a' := ?_) #[true, true, true, true, true, true, true, true, true, true, true, true, true, false, false, false, false, false, false, false, false, false, false, false, false, false, false, false, false, false, false, false, false, false, false, false, false, false, false, false, false, false, false, false, false, false, false, false, false, false, false, false, false, false, false, false, false, false, false, false, false, false, false, false, false, false, false, false, false, false] rfl rfl (any_of HT_.out (by kernel_rfl)) (fun _ _ _ h => h) (Or.inl ⟨by rfl, ?_⟩) ?_ ?_
                    rotate_left
                    · intro w'
                      go_simp
                      with_reducible rfl
                    rotate_left
                    · simp only [Act.put, List.setIfInBounds_toArray, List.set_cons_zero, List.set_cons_succ, i64_w, i32_w]
                      rfl
                    refine pure_ (i := 13) (N := some 18) (v := ?_) (a' := ?_) #[true, true, true, true, true, true, true, true, true, true, true, true, true, true, false, false, false, false, false, false, false, false, false, false, false, false, false, false, false, false, false, false, false, false, false, false, false, false, false, false, false, false, false, false, false, false, false, false, false, false, false, false, false, false, false, false, false, false, false, false, false, false, false, false, false, false, false, false, false, false] rfl rfl (any_of HT_.out (by kernel_rfl)) (fun _ _ _ h => h) (Or.inl ⟨by rfl, ?_⟩) ?_ ?_
                    rotate_left
                    · intro w'
                      go_simp
                      with_reducible rfl
                    rotate_left
                    · simp only [Act.put, List.setIfInBounds_toArray, List.set_cons_zero, List.set_cons_succ, i64_w, i32_w]
                      rfl
                    refine pure_ (i := 15) (N := some 20) (v := ?_) (a' := ?_) #[true, true, true, true, true, true, true, true, true, true, true, true, true, true, false, true, false, false, false, false, false, false, false, false, false, false, false, false, false, false, false, false, false, false, false, false, false, false, false, false, false, false, false, false, false, false, false, false, false, false, false, false, false, false, false, false, false, false, false, false, false, false, false, false, false, false, false, false, false, false] rfl rfl (any_of HT_.out (by kernel_rfl)) (fun _ _ _ h => h) (Or.inl ⟨by rfl, ?_⟩) ?_ ?_
                    rotate_left
                    · intro w'
                      go_simp
                      with_reducible rfl
                    rotate_left
                    · simp only [Act.put, List.setIfInBounds_toArray, List.set_cons_zero, List.set_cons_succ, i64_w, i32_w]
                      rfl
                    refine take_ (i := 14) (N := some 19) (v := ?_) (a' := ?_) #[true, true, true, true, true, true, true, true, true, true, true, true, true, true, true, true, false, false, false, false, false, false, false, false, false, false, false, false, false, false, false, false, false, false, false, false, false, false, false, false, false, false, false, false, false, false, false, false, false, false, false, false, false, false, false, false, false, false, false, false, false, false, false, false, false, false, false, false, false, false] rfl rfl (take_ofW HT_.out HW_.out (by kernel_rfl)) (fun _ _ _ h => h) (Or.inl ⟨by rfl, ?_⟩) hHeld ?_ ?_
                    rotate_left
                    · rintro w' ⟨s0, s1, s2, s3, s4, s5, s6, s7, s8, s9, s10, s11, s12, s13, s14, s15, s16, s17, s18, s19⟩
                      go_simp
                      with_reducible rfl
                    rotate_left
                    · simp only [Act.put, List.setIfInBounds_toArray, List.set_cons_zero, List.set_cons_succ, i64_w, i32_w]
                      rfl
                    refine take_ (i := 16) (N := some 21) (v := ?_) (a' := ?_) #[true, true, true, true, true, true, true, true, true, true, true, true, true, true, true, true, true, false, false, false, false, false, false, false, false, false, false, false, false, false, false, false, false, false, false, false, false, false, false, false, false, false, false, false, false, false, false, false, false, false, false, false, false, false, false, false, false, false, false, false, false, false, false, false, false, false, false, false, false, false] rfl rfl (take_ofW HT_.out HW_.out (by kernel_rfl)) (fun _ _ _ h => h) (Or.inl ⟨by rfl, ?_⟩) hHeld ?_ ?_
                    rotate_left
                    · rintro w' ⟨s0, s1, s2, s3, s4, s5, s6, s7, s8, s9, s10, s11, s12, s13, s14, s15, s16, s17, s18, s19⟩
                      go_simp
                      with_reducible rfl
                    rotate_left
                    · simp only [Act.put, List.setIfInBounds_toArray, List.set_cons_zero, List.set_cons_succ, i64_w, i32_w]
                      rfl
                    refine pure_ (i := 17) (N := some 22) (v := ?_) (a' := ?_) #[true, true, true, true, true, true, true, true, true, true, true, true, true, true, true, true, true, true, false, false, false, false, false, false, false, false, false, false, false, false, false, false, false, false, false, false, false, false, false, false, false, false, false, false, false, false, false, false, false, false, false, false, false, false, false, false, false, false, false, false, false, false, false, false, false, false, false, false, false, false] rfl rfl (any_of HT_.out (by kernel_rfl)) (fun _ _ _ h => h) (Or.inl ⟨by rfl, ?_⟩) ?_ ?_
                    rotate_left
                    · intro w'
                      go_simp
                      with_reducible rfl
                    rotate_left
                    · simp only [Act.put, List.setIfInBounds_toArray, List.set_cons_zero, List.set_cons_succ, i64_w, i32_w]
                      rfl
                    refine pure_ (i := 18) (N := some 23) (v := ?_) (a' := ?_) #[true, true, true, true, true, true, true, true, true, true, true, true, true, true, true, true, true, true, true, false, false, false, false, false, false, false, false, false, false, false, false, false, false, false, false, false, false, false, false, false, false, false, false, false, false, false, false, false, false, false, false, false, false, false, false, false, false, false, false, false, false, false, false, false, false, false, false, false, false, false] rfl rfl (any_of HT_.out (by kernel_rfl)) (fun _ _ _ h => h) (Or.inl ⟨by rfl, ?_⟩) ?_ ?_
                    rotate_left
                    · intro w'
                      go_simp
                      with_reducible rfl
                    rotate_left
                    · simp only [Act.put, List.setIfInBounds_toArray, List.set_cons_zero, List.set_cons_succ, i64_w, i32_w]
                      rfl
                    refine pure_ (i := 19) (N := some 24) (v := ?_) (a' := ?_) #[true, true, true, true, true, true, true, true, true, true, true, true, true, true, true, true, true, true, true, true, false, false, false, false, false, false, false, false, false, false, false, false, false, false, false, false, false, false, false, false, false, false, false, false, false, false, false, false, false, false, false, false, false, false, false, false, false, false, false, false, false, false, false, false, false, false, false, false, false, false] rfl rfl (any_of HT_.out (by kernel_rfl)) (fun _ _ _ h => h) (Or.inl ⟨by rfl, ?_⟩) ?_ ?_
                    rotate_left
                    · intro w'
                      go_simp
                      with_reducible rfl
                    rotate_left
                    · simp only [Act.put, List.setIfInBounds_toArray, List.set_cons_zero, List.set_cons_succ, i64_w, i32_w]
                      rfl
                    refine pure_ (i := 20) (N := some 25) (v := ?_) (a' := ?_) #[true, true, true, true, true, true, true, true, true, true, true, true, true, true, true, true, true, true, true, true, true, false, false, false, false, false, false, false, false, false, false, false, false, false, false, false, false, false, false, false, false, false, false, false, false, false, false, false, false, false, false, false, false, false, false, false, false, false, false, false, false, false, false, false, false, false, false, false, false, false] rfl rfl (any_of HT_.out (by kernel_rfl)) (fun _ _ _ h => h) (Or.inl ⟨by rfl, ?_⟩) ?_ ?_
                    rotate_left
                    · intro w'
                      go_simp
                      with_reducible rfl
                    rotate_left
                    · simp only [Act.put, List.setIfInBounds_toArray, List.set_cons_zero, List.set_cons_succ, i64_w, i32_w]
                      rfl
                    refine pure_ (i := 22) (N := some 27) (v := ?_) (a' := ?_) #[true, true, true, true, true, true, true, true, true, true, true, true, true, true, true, true, true, true, true, true, true, false, true, false, false, false, false, false, false, false, false, false, false, false, false, false, false, false, false, false, false, false, false, false, false, false, false, false, false, false, false, false, false, false, false, false, false, false, false, false, false, false, false, false, false, false, false, false, false, false] rfl rfl (any_of HT_.out (by kernel_rfl)) (fun _ _ _ h => h) (Or.inl ⟨by rfl, ?_⟩) ?_ ?_
                    rotate_left
                    · intro w'
                      go_simp
                      with_reducible rfl
                    rotate_left
                    · simp only [Act.put, List.setIfInBounds_toArray, List.set_cons_zero, List.set_cons_succ, i64_w, i32_w]
                      rfl
                    refine take_ (i := 21) (N := some 26) (v := ?_) (a' := ?_) #[true, true, true, true, true, true, true, true, true, true, true, true, true, true, true, true, true, true, true, true, true, true, true, false, false, false, false, false, false, false, false, false, false, false, false, false, false, false, false, false, false, false, false, false, false, false, false, false, false, false, false, false, false, false, false, false, false, false, false, false, false, false, false, false, false, false, false, false, false, false] rfl rfl (take_ofW HT_.out HW_.out (by kernel_rfl)) (fun _ _ _ h => h) (Or.inl ⟨by rfl, ?_⟩) hHeld ?_ ?_
                    rotate_left
                    · rintro w' ⟨s0, s1, s2, s3, s4, s5, s6, s7, s8, s9, s10, s11, s12, s13, s14, s15, s16, s17, s18, s19⟩
                      go_simp
                      with_reducible rfl
                    rotate_left
                    · simp only [Act.put, List.setIfInBounds_toArray, List.set_cons_zero, List.set_cons_succ, i64_w, i32_w]
                      rfl
                    refine take_ (i := 23) (N := some 28) (v := ?_) (a' := ?_) #[true, true, true, true, true, true, true, true, true, true, true, true, true, true, true, true, true, true, true, true, true, true, true, true, false, false, false, false, false, false, false, false, false, false, false, false, false, false, false, false, false, false, false, false, false, false, false, false, false, false, false, false, false, false, false, false, false, false, false, false, false, false, false, false, false, false, false, false, false, false] rfl rfl (take_ofW HT_.out HW_.out (by kernel_rfl)) (fun _ _ _ h => h) (Or.inl ⟨by rfl, ?_⟩) hHeld ?_ ?_
                    rotate_left
                    · rintro w' ⟨s0, s1, s2, s3, s4, s5, s6, s7, s8, s9, s10, s11, s12, s13, s14, s15, s16, s17, s18, s19⟩
                      go_simp
                      with_reducible rfl
                    rotate_left
                    · simp only [Act.put, List.setIfInBounds_toArray, List.set_cons_zero, List.set_cons_succ, i64_w, i32_w]
                      rfl
                    refine pure_ (i := 24) (N := some 29) (v := ?_) (a' := ?_) #[true, true, true, true, true, true, true, true, true, true, true, true, true, true, true, true, true, true, true, true, true, true, true, true, true, false, false, false, false, false, false, false, false, false, false, false, false, false, false, false, false, false, false, false, false, false, false, false, false, false, false, false, false, false, false, false, false, false, false, false, false, false, false, false, false, false, false, false, false, false] rfl rfl (any_of HT_.out (by kernel_rfl)) (fun _ _ _ h => h) (Or.inl ⟨by rfl, ?_⟩) ?_ ?_
                    rotate_left
                    · intro w'
                      go_simp
                      with_reducible rfl
                    rotate_left
                    · simp only [Act.put, List.setIfInBounds_toArray, List.set_cons_zero, List.set_cons_succ, i64_w, i32_w]
                      rfl
                    refine pure_ (i := 25) (N := some 30) (v := ?_) (a' := ?_) #[true, true, true, true, true, true, true, true, true, true, true, true, true, true, true, true, true, true, true, true, true, true, true, true, true, true, false, false, false, false, false, false, false, false, false, false, false, false, false, false, false, false, false, false, false, false, false, false, false, false, false, false, false, false, false, false, false, false, false, false, false, false, false, false, false, false, false, false, false, false] rfl rfl (any_of HT_.out (by kernel_rfl)) (fun _ _ _ h => h) (Or.inl ⟨by rfl, ?_⟩) ?_ ?_
                    rotate_left
                    · intro w'
                      go_simp
                      with_reducible rfl
                    rotate_left
                    · simp only [Act.put, List.setIfInBounds_toArray, List.set_cons_zero, List.set_cons_succ, i64_w, i32_w]
                      rfl
                    refine pure_ (i := 26) (N := some 31) (v := ?_) (a' := ?_) #[true, true, true, true, true, true, true, true, true, true, true, true, true, true, true, true, true, true, true, true, true, true, true, true, true, true, true, false, false, false, false, false, false, false, false, false, false, false, false, false, false, false, false, false, false, false, false, false, false, false, false, false, false, false, false, false, false, false, false, false, false, false, false, false, false, false, false, false, false, false] rfl rfl (any_of HT_.out (by kernel_rfl)) (fun _ _ _ h => h) (Or.inl ⟨by rfl, ?_⟩) ?_ ?_
                    rotate_left
                    · intro w'
                      go_simp
                      with_reducible rfl
                    rotate_left
                    · simp only [Act.put, List.setIfInBounds_toArray, List.set_cons_zero, List.set_cons_succ, i64_w, i32_w]
                      rfl
                    refine pure_ (i := 27) (N := some 32) (v := ?_) (a' := ?_) #[true, true, true, true, true, true, true, true, true, true, true, true, true, true, true, true, true, true, true, true, true, true, true, true, true, true, true, true, false, false, false, false, false, false, false, false, false, false, false, false, false, false, false, false, false, false, false, false, false, false, false, false, false, false, false, false, false, false, false, false, false, false, false, false, false, false, false, false, false, false] rfl rfl (any_of HT_.out (by kernel_rfl)) (fun _ _ _ h => h) (Or.inl ⟨by rfl, ?_⟩) ?_ ?_
                    rotate_left
                    · intro w'
                      go_simp
                      with_reducible rfl
                    rotate_left
                    · simp only [Act.put, List.setIfInBounds_toArray, List.set_cons_zero, List.set_cons_succ, i64_w, i32_w]
                      rfl
                    refine pure_ (i := 29) (N := some 34) (v := ?_) (a' := ?_) #[true, true, true, true, true, true, true, true, true, true, true, true, true, true, true, true, true, true, true, true, true, true, true, true, true, true, true, true, false, true, false, false, false, false, false, false, false, false, false, false, false, false, false, false, false, false, false, false, false, false, false, false, false, false, false, false, false, false, false, false, false, false, false, false, false, false, false, false, false, false] rfl rfl (any_of HT_.out (by kernel_rfl)) (fun _ _ _ h => h) (Or.inl ⟨by rfl, ?_⟩) ?_ ?_
                    rotate_left
                    · intro w'
                      go_simp
                      with_reducible rfl
                    rotate_left
                    · simp only [Act.put, List.setIfInBounds_toArray, List.set_cons_zero, List.set_cons_succ, i64_w, i32_w]
                      rfl
                    refine take_ (i := 28) (N := some 33) (v := ?_) (a' := ?_) #[true, true, true, true, true, true, true, true, true, true, true, true, true, true, true, true, true, true, true, true, true, true, true, true, true, true, true, true, true, true, false, false, false, false, false, false, false, false, false, false, false, false, false, false, false, false, false, false, false, false, false, false, false, false, false, false, false, false, false, false, false, false, false, false, false, false, false, false, false, false] rfl rfl (take_ofW HT_.out HW_.out (by kernel_rfl)) (fun _ _ _ h => h) (Or.inl ⟨by rfl, ?_⟩) hHeld ?_ ?_
                    rotate_left
                    · rintro w' ⟨s0, s1, s2, s3, s4, s5, s6, s7, s8, s9, s10, s11, s12, s13, s14, s15, s16, s17, s18, s19⟩
                      go_simp
                      with_reducible rfl
                    rotate_left
                    · simp only [Act.put, List.setIfInBounds_toArray, List.set_cons_zero, List.set_cons_succ, i64_w, i32_w]
                      rfl
                    refine take_ (i := 30) (N := some 35) (v := ?_) (a' := ?_) #[true, true, true, true, true, true, true, true, true, true, true, true, true, true, true, true, true, true, true, true, true, true, true, true, true, true, true, true, true, true, true, false, false, false, false, false, false, false, false, false, false, false, false, false, false, false, false, false, false, false, false, false, false, false, false, false, false, false, false, false, false, false, false, false, false, false, false, false, false, false] rfl rfl (take_ofW HT_.out HW_.out (by kernel_rfl)) (fun _ _ _ h => h) (Or.inl ⟨by rfl, ?_⟩) hHeld ?_ ?_
                    rotate_left
                    · rintro w' ⟨s0, s1, s2, s3, s4, s5, s6, s7, s8, s9, s10, s11, s12, s13, s14, s15, s16, s17, s18, s19⟩
                      go_simp
                      with_reducible rfl
                    rotate_left
                    · simp only [Act.put, List.setIfInBounds_toArray, List.set_cons_zero, List.set_cons_succ, i64_w, i32_w]
                      rfl
                    refine pure_ (i := 31) (N := some 36) (v := ?_) (a' := ?_) #[true, true, true, true, true, true, true, true, true, true, true, true, true, true, true, true, true, true, true, true, true, true, true, true, true, true, true, true, true, true, true, true, false, false, false, false, false, false, false, false, false, false, false, false, false, false, false, false, false, false, false, false, false, false, false, false, false, false, false, false, false, false, false, false, false, false, false, false, false, false] rfl rfl (any_of HT_.out (by kernel_rfl)) (fun _ _ _ h => h) (Or.inl ⟨by rfl, ?_⟩) ?_ ?_
                    rotate_left
                    · intro w'
                      go_simp
                      with_reducible rfl
                    rotate_left
                    · simp only [Act.put, List.setIfInBounds_toArray, List.set_cons_zero, List.set_cons_succ, i64_w, i32_w]
                      rfl
                    refine pure_ (i := 32) (N := some 37) (v := ?_) (a' := ?_) #[true, true, true, true, true, true, true, true, true, true, true, true, true, true, true, true, true, true, true, true, true, true, true, true, true, true, true, true, true, true, true, true, true, false, false, false, false, false, false, false, false, false, false, false, false, false, false, false, false, false, false, false, false, false, false, false, false, false, false, false, false, false, false, false, false, false, false, false, false, false] rfl rfl (any_of HT_.out (by kernel_rfl)) (fun _ _ _ h => h) (Or.inl ⟨by rfl, ?_⟩) ?_ ?_
                    rotate_left
                    · intro w'
                      go_simp
                      with_reducible rfl
                    rotate_left
                    · simp only [Act.put, List.setIfInBounds_toArray, List.set_cons_zero, List.set_cons_succ, i64_w, i32_w]
                      rfl
                    refine pure_ (i := 33) (N := some 38) (v := ?_) (a' := ?_) #[true, true, true, true, true, true, true, true, true, true, true, true, true, true, true, true, true, true, true, true, true, true, true, true, true, true, true, true, true, true, true, true, true, true, false, false, false, false, false, false, false, false, false, false, false, false, false, false, false, false, false, false, false, false, false, false, false, false, false, false, false, false, false, false, false, false, false, false, false, false] rfl rfl (any_of HT_.out (by kernel_rfl)) (fun _ _ _ h => h) (Or.inl ⟨by rfl, ?_⟩) ?_ ?_
                    rotate_left
                    · intro w'
                      go_simp
                      with_reducible rfl
                    rotate_left
                    · simp only [Act.put, List.setIfInBounds_toArray, List.set_cons_zero, List.set_cons_succ, i64_w, i32_w]
                      rfl
                    refine pure_ (i := 34) (N := some 39) (v := ?_) (a' := ?_) #[true, true, true, true, true, true, true, true, true, true, true, true, true, true, true, true, true, true, true, true, true, true, true, true, true, true, true, true, true, true, true, true, true, true, true, false, false, false, false, false, false, false, false, false, false, false, false, false, false, false, false, false, false, false, false, false, false, false, false, false, false, false, false, false, false, false, false, false, false, false] rfl rfl (any_of HT_.out (by kernel_rfl)) (fun _ _ _ h => h) (Or.inl ⟨by rfl, ?_⟩) ?_ ?_
                    rotate_left
                    · intro w'
                      go_simp
                      with_reducible rfl
                    rotate_left
                    · simp only [Act.put, List.setIfInBounds_toArray, List.set_cons_zero, List.set_cons_succ, i64_w, i32_w]
                      rfl
                    refine pure_ (i := 36) (N := some 41) (v := ?_) (a' := ?_) #[true, true, true, true, true, true, true, true, true, true, true, true, true, true, true, true, true, true, true, true, true, true, true, true, true, true, true, true, true, true, true, true, true, true, true, false, true, false, false, false, false, false, false, false, false, false, false, false, false, false, false, false, false, false, false, false, false, false, false, false, false, false, false, false, false, false, false, false, false, false] rfl rfl (any_of HT_.out (by kernel_rfl)) (fun _ _ _ h => h) (Or.inl ⟨by rfl, ?_⟩) ?_ ?_
                    rotate_left
                    · intro w'
                      go_simp
                      with_reducible rfl
                    rotate_left
                    · simp only [Act.put, List.setIfInBounds_toArray, List.set_cons_zero, List.set_cons_succ, i64_w, i32_w]
                      rfl
                    refine take_ (i := 35) (N := some 40) (v := ?_) (a' := ?_) #[true, true, true, true, true, true, true, true, true, true, true, true, true, true, true, true, true, true, true, true, true, true, true, true, true, true, true, true, true, true, true, true, true, true, true, true, true, false, false, false, false, false, false, false, false, false, false, false, false, false, false, false, false, false, false, false, false, false, false, false, false, false, false, false, false, false, false, false, false, false] rfl rfl (take_ofW HT_.out HW_.out (by kernel_rfl)) (fun _ _ _ h => h) (Or.inl ⟨by rfl, ?_⟩) hHeld ?_ ?_
                    rotate_left
                    · rintro w' ⟨s0, s1, s2, s3, s4, s5, s6, s7, s8, s9, s10, s11, s12, s13, s14, s15, s16, s17, s18, s19⟩
                      go_simp
                      with_reducible rfl
                    rotate_left
                    · simp only [Act.put, List.setIfInBounds_toArray, List.set_cons_zero, List.set_cons_succ, i64_w, i32_w]
                      rfl
                    refine take_ (i := 37) (N := some 42) (v := ?_) (a' := ?_) #[true, true, true, true, true, true, true, true, true, true, true, true, true, true, true, true, true, true, true, true, true, true, true, true, true, true, true, true, true, true, true, true, true, true, true, true, true, true, false, false, false, false, false, false, false, false, false, false, false, false, false, false, false, false, false, false, false, false, false, false, false, false, false, false, false, false, false, false, false, false] rfl rfl (take_ofW HT_.out HW_.out (by kernel_rfl)) (fun _ _ _ h => h) (Or.inl ⟨by rfl, ?_⟩) hHeld ?_ ?_
                    rotate_left
                    · rintro w' ⟨s0, s1, s2, s3, s4, s5, s6, s7, s8, s9, s10, s11, s12, s13, s14, s15, s16, s17, s18, s19⟩
                      go_simp
                      with_reducible rfl
                    rotate_left
                    · simp only [Act.put, List.setIfInBounds_toArray, List.set_cons_zero, List.set_cons_succ, i64_w, i32_w]
                      rfl
                    refine pure_ (i := 38) (N := some 43) (v := ?_) (a' := ?_) #[true, true, true, true, true, true, true, true, true, true, true, true, true, true, true, true, true, true, true, true, true, true, true, true, true, true, true, true, true, true, true, true, true, true, true, true, true, true, true, false, false, false, false, false, false, false, false, false, false, false, false, false, false, false, false, false, false, false, false, false, false, false, false, false, false, false, false, false, false, false] rfl rfl (any_of HT_.out (by kernel_rfl)) (fun _ _ _ h => h) (Or.inl ⟨by rfl, ?_⟩) ?_ ?_
                    rotate_left
                    · intro w'
                      go_simp
                      with_reducible rfl
                    rotate_left
                    · simp only [Act.put, List.setIfInBounds_toArray, List.set_cons_zero, List.set_cons_succ, i64_w, i32_w]
                      rfl
                    refine pure_ (i := 39) (N := some 44) (v := ?_) (a' := ?_) #[true, true, true, true, true, true, true, true, true, true, true, true, true, true, true, true, true, true, true, true, true, true, true, true, true, true, true, true, true, true, true, true, true, true, true, true, true, true, true, true, false, false, false, false, false, false, false, false, false, false, false, false, false, false, false, false, false, false, false, false, false, false, false, false, false, false, false, false, false, false] rfl rfl (any_of HT_.out (by kernel_rfl)) (fun _ _ _ h => h) (Or.inl ⟨by rfl, ?_⟩) ?_ ?_
                    rotate_left
                    · intro w'
                      go_simp
                      with_reducible rfl
                    rotate_left
                    · simp only [Act.put, List.setIfInBounds_toArray, List.set_cons_zero, List.set_cons_succ, i64_w, i32_w]
                      rfl
                    refine pure_ (i := 40) (N := some 45) (v := ?_) (a' := ?_) #[true, true, true, true, true, true, true, true, true, true, true, true, true, true, true, true, true, true, true, true, true, true, true, true, true, true, true, true, true, true, true, true, true, true, true, true, true, true, true, true, true, false, false, false, false, false, false, false, false, false, false, false, false, false, false, false, false, false, false, false, false, false, false, false, false, false, false, false, false, false] rfl rfl (any_of HT_.out (by kernel_rfl)) (fun _ _ _ h => h) (Or.inl ⟨by rfl, ?_⟩) ?_ ?_
                    rotate_left
                    · intro w'
                      go_simp
                      with_reducible rfl
                    rotate_left
                    · simp only [Act.put, List.setIfInBounds_toArray, List.set_cons_zero, List.set_cons_succ, i64_w, i32_w]
                      rfl
                    refine pure_ (i := 41) (N := some 46) (v := ?_) (a' := ?_) #[true, true, true, true, true, true, true, true, true, true, true, true, true, true, true, true, true, true, true, true, true, true, true, true, true, true, true, true, true, true, true, true, true, true, true, true, true, true, true, true, true, true, false, false, false, false, false, false, false, false, false, false, false, false, false, false, false, false, false, false, false, false, false, false, false, false, false, false, false, false] rfl rfl (any_of HT_.out (by kernel_rfl)) (fun _ _ _ h => h) (Or.inl ⟨by rfl, ?_⟩) ?_ ?_
                    rotate_left
                    · intro w'
                      go_simp
                      with_reducible rfl
                    rotate_left
                    · simp only [Act.put, List.setIfInBounds_toArray, List.set_cons_zero, List.set_cons_succ, i64_w, i32_w]
                      rfl
                    refine pure_ (i := 43) (N := some 48) (v := ?_) (a' := ?_) #[true, true, true, true, true, true, true, true, true, true, true, true, true, true, true, true, true, true, true, true, true, true, true, true, true, true, true, true, true, true, true, true, true, true, true, true, true, true, true, true, true, true, false, true, false, false, false, false, false, false, false, false, false, false, false, false, false, false, false, false, false, false, false, false, false, false, false, false, false, false] rfl rfl (any_of HT_.out (by kernel_rfl)) (fun _ _ _ h => h) (Or.inl ⟨by rfl, ?_⟩) ?_ ?_
                    rotate_left
                    · intro w'
                      go_simp
                      with_reducible rfl
                    rotate_left
                    · simp only [Act.put, List.setIfInBounds_toArray, List.set_cons_zero, List.set_cons_succ, i64_w, i32_w]
                      rfl
                    refine take_ (i := 42) (N := some 47) (v := ?_) (a' := ?_) #[true, true, true, true, true, true, true, true, true, true, true, true, true, true, true, true, true, true, true, true, true, true, true, true, true, true, true, true, true, true, true, true, true, true, true, true, true, true, true, true, true, true, true, true, false, false, false, false, false, false, false, false, false, false, false, false, false, false, false, false, false, false, false, false, false, false, false, false, false, false] rfl rfl (take_ofW HT_.out HW_.out (by kernel_rfl)) (fun _ _ _ h => h) (Or.inl ⟨by rfl, ?_⟩) hHeld ?_ ?_
                    rotate_left
                    · rintro w' ⟨s0, s1, s2, s3, s4, s5, s6, s7, s8, s9, s10, s11, s12, s13, s14, s15, s16, s17, s18, s19⟩
                      go_simp
                      with_reducible rfl
                    rotate_left
                    · simp only [Act.put, List.setIfInBounds_toArray, List.set_cons_zero, List.set_cons_succ, i64_w, i32_w]
                      rfl
                    refine take_ (i := 44) (N := some 49) (v := ?_) (a' := ?_) #[true, true, true, true, true, true, true, true, true, true, true, true, true, true, true, true, true, true, true, true, true, true, true, true, true, true, true, true, true, true, true, true, true, true, true, true, true, true, true, true, true, true, true, true, true, false, false, false, false, false, false, false, false, false, false, false, false, false, false, false, false, false, false, false, false, false, false, false, false, false] rfl rfl (take_ofW HT_.out HW_.out (by kernel_rfl)) (fun _ _ _ h => h) (Or.inl ⟨by rfl, ?_⟩) hHeld ?_ ?_
                    rotate_left
                    · rintro w' ⟨s0, s1, s2, s3, s4, s5, s6, s7, s8, s9, s10, s11, s12, s13, s14, s15, s16, s17, s18, s19⟩
                      go_simp
                      with_reducible rfl
                    rotate_left
                    · simp only [Act.put, List.setIfInBounds_toArray, List.set_cons_zero, List.set_cons_succ, i64_w, i32_w]
                      rfl
                    refine pure_ (i := 45) (N := some 50) (v := ?_) (a' := ?_) #[true, true, true, true, true, true, true, true, true, true, true, true, true, true, true, true, true, true, true, true, true, true, true, true, true, true, true, true, true, true, true, true, true, true, true, true, true, true, true, true, true, true, true, true, true, true, false, false, false, false, false, false, false, false, false, false, false, false, false, false, false, false, false, false, false, false, false, false, false, false] rfl rfl (any_of HT_.out (by kernel_rfl)) (fun _ _ _ h => h) (Or.inl ⟨by rfl, ?_⟩) ?_ ?_
                    rotate_left
                    · intro w'
                      go_simp
                      with_reducible rfl
                    rotate_left
                    · simp only [Act.put, List.setIfInBounds_toArray, List.set_cons_zero, List.set_cons_succ, i64_w, i32_w]
                      rfl
                    refine pure_ (i := 46) (N := some 51) (v := ?_) (a' := ?_) #[true, true, true, true, true, true, true, true, true, true, true, true, true, true, true, true, true, true, true, true, true, true, true, true, true, true, true, true, true, true, true, true, true, true, true, true, true, true, true, true, true, true, true, true, true, true, true, false, false, false, false, false, false, false, false, false, false, false, false, false, false, false, false, false, false, false, false, false, false, false] rfl rfl (any_of HT_.out (by kernel_rfl)) (fun _ _ _ h => h) (Or.inl ⟨by rfl, ?_⟩) ?_ ?_
                    rotate_left
                    · intro w'
                      go_simp
                      with_reducible rfl
                    rotate_left
                    · simp only [Act.put, List.setIfInBounds_toArray, List.set_cons_zero, List.set_cons_succ, i64_w, i32_w]
                      rfl
                    refine pure_ (i := 47) (N := some 52) (v := ?_) (a' := ?_) #[true, true, true, true, true, true, true, true, true, true, true, true, true, true, true, true, true, true, true, true, true, true, true, true, true, true, true, true, true, true, true, true, true, true, true, true, true, true, true, true, true, true, true, true, true, true, true, true, false, false, false, false, false, false, false, false, false, false, false, false, false, false, false, false, false, false, false, false, false, false] rfl rfl (any_of HT_.out (by kernel_rfl)) (fun _ _ _ h => h) (Or.inl ⟨by rfl, ?_⟩) ?_ ?_
                    rotate_left
                    · intro w'
                      go_simp
                      with_reducible rfl
                    rotate_left
                    · simp only [Act.put, List.setIfInBounds_toArray, List.set_cons_zero, List.set_cons_succ, i64_w, i32_w]
                      rfl
                    refine pure_ (i := 48) (N := some 53) (v := ?_) (a' := ?_) #[true, true, true, true, true, true, true, true, true, true, true, true, true, true, true, true, true, true, true, true, true, true, true, true, true, true, true, true, true, true, true, true, true, true, true, true, true, true, true, true, true, true, true, true, true, true, true, true, true, false, false, false, false, false, false, false, false, false, false, false, false, false, false, false, false, false, false, false, false, false] rfl rfl (any_of HT_.out (by kernel_rfl)) (fun _ _ _ h => h) (Or.inl ⟨by rfl, ?_⟩) ?_ ?_
                    rotate_left
                    · intro w'
                      go_simp
                      with_reducible rfl
                    rotate_left
                    · simp only [Act.put, List.setIfInBounds_toArray, List.set_cons_zero, List.set_cons_succ, i64_w, i32_w]
                      rfl
                    refine pure_ (i := 51) (N := some 56) (v := ?_) (a' := ?_) #[true, true, true, true, true, true, true, true, true, true, true, true, true, true, true, true, true, true, true, true, true, true, true, true, true, true, true, true, true, true, true, true, true, true, true, true, true, true, true, true, true, true, true, true, true, true, true, true, true, false, false, true, false, false, false, false, false, false, false, false, false, false, false, false, false, false, false, false, false, false] rfl rfl (any_of HT_.out (by kernel_rfl)) (fun _ _ _ h => h) (Or.inl ⟨by rfl, ?_⟩) ?_ ?_
                    rotate_left
                    · intro w'
                      go_simp
                      with_reducible rfl
                    rotate_left
                    · simp only [Act.put, List.setIfInBounds_toArray, List.set_cons_zero, List.set_cons_succ, i64_w, i32_w]
                      rfl
                    refine take_ (i := 49) (N := some 54) (v := ?_) (a' := ?_) #[true, true, true, true, true, true, true, true, true, true, true, true, true, true, true, true, true, true, true, true, true, true, true, true, true, true, true, true, true, true, true, true, true, true, true, true, true, true, true, true, true, true, true, true, true, true, true, true, true, true, false, true, false, false, false, false, false, false, false, false, false, false, false, false, false, false, false, false, false, false] rfl rfl (take_ofW HT_.out HW_.out (by kernel_rfl)) (fun _ _ _ h => h) (Or.inl ⟨by rfl, ?_⟩) hHeld ?_ ?_
                    rotate_left
                    · rintro w' ⟨s0, s1, s2, s3, s4, s5, s6, s7, s8, s9, s10, s11, s12, s13, s14, s15, s16, s17, s18, s19⟩
                      go_simp
                      with_reducible rfl
                    rotate_left
                    · simp only [Act.put, List.setIfInBounds_toArray, List.set_cons_zero, List.set_cons_succ, i64_w, i32_w]
                      rfl
                    refine take_ (i := 52) (N := some 57) (v := ?_) (a' := ?_) #[true, true, true, true, true, true, true, true, true, true, true, true, true, true, true, true, true, true, true, true, true, true, true, true, true, true, true, true, true, true, true, true, true, true, true, true, true, true, true, true, true, true, true, true, true, true, true, true, true, true, false, true, true, false, false, false, false, false, false, false, false, false, false, false, false, false, false, false, false, false] rfl rfl (take_ofW HT_.out HW_.out (by kernel_rfl)) (fun _ _ _ h => h) (Or.inl ⟨by rfl, ?_⟩) hHeld ?_ ?_
                    rotate_left
                    · rintro w' ⟨s0, s1, s2, s3, s4, s5, s6, s7, s8, s9, s10, s11, s12, s13, s14, s15, s16, s17, s18, s19⟩
                      go_simp
                      with_reducible rfl
                    rotate_left
                    · simp only [Act.put, List.setIfInBounds_toArray, List.set_cons_zero, List.set_cons_succ, i64_w, i32_w]
                      rfl
                    refine one_ (i := 50) (N := some 55) #[true, true, true, true, true, true, true, true, true, true, true, true, true, true, true, true, true, true, true, true, true, true, true, true, true, true, true, true, true, true, true, true, true, true, true, true, true, true, true, true, true, true, true, true, true, true, true, true, true, true, true, true, true, false, false, false, false, false, false, false, false, false, false, false, false, false, false, false, false, false] rfl rfl (one_of HT_.out (by kernel_rfl)) (by decide) (fun K hK => ?_)
                    refine goes_ Tryd.func21 (by kernel_rfl) rfl #[.slice A0_7 l0_7.length c0_7] (by rfl) rfl rfl (by (try simp only [List.map_toArray, List.map_cons, List.map_nil]); first | done | rfl | (simp only [List.length_drop, List.length_take]; rfl)) ?_
                    with_reducible refine (pyxref09_Text.calls _ _ l0_7 t103 _ ?side1 ?side2 ?side3 A10.out).mono ?_
                    (case side1 => first | exact HLd | (exact LaidOk.below HLd (by repeat (first | (with_reducible first | exact HB.out | apply below_alloc | apply pw_below_drewN | apply below_drew1) | exact HB.out))) | (repeat (first | exact HLd | apply LaidOk.drewN | apply LaidOk.drew | apply LaidOk.alloc)))
                    (case side2 => repeat (first | exact (Kd.C_below HR0_7.out HB.out) | (with_reducible refine Kd.C_alloc ?_ _) | (with_reducible refine Kd.C_drewN ?_ _) | (with_reducible refine Kd.C_drew ?_)))
                    (case side3 => exact HC0_7.out)
                    rintro e w16 ⟨rfl, hb⟩
                    refine ⟨_, rfl, ?_⟩
                    have n0_ := Aside0.mk (blk_below (g := gb101) (o := .cells #[.int .i64 a0_0, .int .i64 a0_1, .string a0_2, .int .i64 a0_3, .int .i64 a0_4, .int .i64 a0_5, .int .i64 a0_6, .slice A0_7 l0_7.length c0_7, .int .i64 a0_8, .int .u32 a0_9] 37 (0, 0)) (by (with_reducible repeat (first | refine blk_drewN ?_ _ | refine blk_drew ?_ | refine blk_alloc ?_ _)); exact BK101.out) hb)
                    have n1_ := Aside0.mk (blk_below (g := gb102) (o := .cells #[.int .i64 a1_0, .int .i64 a1_1, .string a1_2, .int .i64 a1_3, .int .i64 a1_4, .int .i64 a1_5, .int .i64 a1_6, .string a1_7, .int .i64 a1_8, .int .u32 a1_9] 42 (0, 0)) (by (with_reducible repeat (first | refine blk_drewN ?_ _ | refine blk_drew ?_ | refine blk_alloc ?_ _)); exact BK102.out) hb)
                    have n2_ := Aside0.mk (below_step (by repeat (first | (with_reducible first | exact HB.out | apply below_alloc | apply pw_below_drewN | apply below_drew1 | refine below_set ?_ GE101.out | refine below_set ?_ GE102.out) | exact HB.out)) hb)
                    clear BK101
                    clear BK102
                    clear HB
                    have BK101 := n0_
                    have BK102 := n1_
                    have HB := n2_
                    clear n0_ n1_ n2_
                    (try clear hb)
                    (try clear hb2)
                    (try clear hk)
                    (try clear hi)
                    refine hK.out _ _ ⟨(blk_cell BK101.out 0).trans rfl, (blk_cell BK101.out 1).trans rfl, (blk_cell BK101.out 2).trans rfl, (blk_cell BK101.out 3).trans rfl, (blk_cell BK101.out 4).trans rfl, (blk_cell BK101.out 5).trans rfl, (blk_cell BK101.out 6).trans rfl, (blk_cell BK101.out 7).trans rfl, (blk_cell BK101.out 8).trans rfl, (blk_cell BK101.out 9).trans rfl, (blk_cell BK102.out 0).trans rfl, (blk_cell BK102.out 1).trans rfl, (blk_cell BK102.out 2).trans rfl, (blk_cell BK102.out 3).trans rfl, (blk_cell BK102.out 4).trans rfl, (blk_cell BK102.out 5).trans rfl, (blk_cell BK102.out 6).trans rfl, (blk_cell BK102.out 7).trans rfl, (blk_cell BK102.out 8).trans rfl, (blk_cell BK102.out 9).trans rfl⟩ (fun hHeld => ?_)
                    clear hK K
                    refine norm_ (a' := ?_) ?_ ?_
                    rotate_left
                    · show Act.put _ (some 55) _ = _
                      simp only [Act.put, List.setIfInBounds_toArray, List.set_cons_zero, List.set_cons_succ, i64_w, i32_w]
                      rfl
                    refine pure_ (i := 53) (N := some 58) (v := ?_) (a' := ?_) #[true, true, true, true, true, true, true, true, true, true, true, true, true, true, true, true, true, true, true, true, true, true, true, true, true, true, true, true, true, true, true, true, true, true, true, true, true, true, true, true, true, true, true, true, true, true, true, true, true, true, true, true, true, true, false, false, false, false, false, false, false, false, false, false, false, false, false, false, false, false] rfl rfl (any_of HT_.out (by kernel_rfl)) (fun _ _ _ h => h) (Or.inl ⟨by rfl, ?_⟩) ?_ ?_
                    rotate_left
                    · intro w'
                      go_simp
                      with_reducible rfl
                    rotate_left
                    · simp only [Act.put, List.setIfInBounds_toArray, List.set_cons_zero, List.set_cons_succ, i64_w, i32_w]
                      rfl
                    refine pure_ (i := 54) (N := some 59) (v := ?_) (a' := ?_) #[true, true, true, true, true, true, true, true, true, true, true, true, true, true, true, true, true, true, true, true, true, true, true, true, true, true, true, true, true, true, true, true, true, true, true, true, true, true, true, true, true, true, true, true, true, true, true, true, true, true, true, true, true, true, true, false, false, false, false, false, false, false, false, false, false, false, false, false, false, false] rfl rfl (any_of HT_.out (by kernel_rfl)) (fun _ _ _ h => h) (Or.inl ⟨by rfl, ?_⟩) ?_ ?_
                    rotate_left
                    · intro w'
                      go_simp
                      with_reducible rfl
                    rotate_left
                    · simp only [Act.put, List.setIfInBounds_toArray, List.set_cons_zero, List.set_cons_succ, i64_w, i32_w]
                      rfl
                    refine pure_ (i := 55) (N := some 60) (v := ?_) (a' := ?_) #[true, true, true, true, true, true, true, true, true, true, true, true, true, true, true, true, true, true, true, true, true, true, true, true, true, true, true, true, true, true, true, true, true, true, true, true, true, true, true, true, true, true, true, true, true, true, true, true, true, true, true, true, true, true, true, true, false, false, false, false, false, false, false, false, false, false, false, false, false, false] rfl rfl (any_of HT_.out (by kernel_rfl)) (fun _ _ _ h => h) (Or.inl ⟨by rfl, ?_⟩) ?_ ?_
                    rotate_left
                    · intro w'
                      go_simp
                      with_reducible rfl
                    rotate_left
                    · simp only [Act.put, List.setIfInBounds_toArray, List.set_cons_zero, List.set_cons_succ, i64_w, i32_w]
                      rfl
                    refine pure_ (i := 56) (N := some 61) (v := ?_) (a' := ?_) #[true, true, true, true, true, true, true, true, true, true, true, true, true, true, true, true, true, true, true, true, true, true, true, true, true, true, true, true, true, true, true, true, true, true, true, true, true, true, true, true, true, true, true, true, true, true, true, true, true, true, true, true, true, true, true, true, true, false, false, false, false, false, false, false, false, false, false, false, false, false] rfl rfl (any_of HT_.out (by kernel_rfl)) (fun _ _ _ h => h) (Or.inl ⟨by rfl, ?_⟩) ?_ ?_
                    rotate_left
                    · intro w'
                      go_simp
                      with_reducible rfl
                    rotate_left
                    · simp only [Act.put, List.setIfInBounds_toArray, List.set_cons_zero, List.set_cons_succ, i64_w, i32_w]
                      rfl
                    refine pure_ (i := 58) (N := some 63) (v := ?_) (a' := ?_) #[true, true, true, true, true, true, true, true, true, true, true, true, true, true, true, true, true, true, true, true, true, true, true, true, true, true, true, true, true, true, true, true, true, true, true, true, true, true, true, true, true, true, true, true, true, true, true, true, true, true, true, true, true, true, true, true, true, false, true, false, false, false, false, false, false, false, false, false, false, false] rfl rfl (any_of HT_.out (by kernel_rfl)) (fun _ _ _ h => h) (Or.inl ⟨by rfl, ?_⟩) ?_ ?_
                    rotate_left
                    · intro w'
                      go_simp
                      with_reducible rfl
                    rotate_left
                    · simp only [Act.put, List.setIfInBounds_toArray, List.set_cons_zero, List.set_cons_succ, i64_w, i32_w]
                      rfl
                    refine take_ (i := 57) (N := some 62) (v := ?_) (a' := ?_) #[true, true, true, true, true, true, true, true, true, true, true, true, true, true, true, true, true, true, true, true, true, true, true, true, true, true, true, true, true, true, true, true, true, true, true, true, true, true, true, true, true, true, true, true, true, true, true, true, true, true, true, true, true, true, true, true, true, true, true, false, false, false, false, false, false, false, false, false, false, false] rfl rfl (take_ofW HT_.out HW_.out (by kernel_rfl)) (fun _ _ _ h => h) (Or.inl ⟨by rfl, ?_⟩) hHeld ?_ ?_
                    rotate_left
                    · rintro w' ⟨s0, s1, s2, s3, s4, s5, s6, s7, s8, s9, s10, s11, s12, s13, s14, s15, s16, s17, s18, s19⟩
                      go_simp
                      with_reducible rfl
                    rotate_left
                    · simp only [Act.put, List.setIfInBounds_toArray, List.set_cons_zero, List.set_cons_succ, i64_w, i32_w]
                      rfl
                    refine take_ (i := 59) (N := some 64) (v := ?_) (a' := ?_) #[true, true, true, true, true, true, true, true, true, true, true, true, true, true, true, true, true, true, true, true, true, true, true, true, true, true, true, true, true, true, true, true, true, true, true, true, true, true, true, true, true, true, true, true, true, true, true, true, true, true, true, true, true, true, true, true, true, true, true, true, false, false, false, false, false, false, false, false, false, false] rfl rfl (take_ofW HT_.out HW_.out (by kernel_rfl)) (fun _ _ _ h => h) (Or.inl ⟨by rfl, ?_⟩) hHeld ?_ ?_
                    rotate_left
                    · rintro w' ⟨s0, s1, s2, s3, s4, s5, s6, s7, s8, s9, s10, s11, s12, s13, s14, s15, s16, s17, s18, s19⟩
                      go_simp
                      with_reducible rfl
                    rotate_left
                    · simp only [Act.put, List.setIfInBounds_toArray, List.set_cons_zero, List.set_cons_succ, i64_w, i32_w]
                      rfl
                    refine pure_ (i := 60) (N := some 65) (v := ?_) (a' := ?_) #[true, true, true, true, true, true, true, true, true, true, true, true, true, true, true, true, true, true, true, true, true, true, true, true, true, true, true, true, true, true, true, true, true, true, true, true, true, true, true, true, true, true, true, true, true, true, true, true, true, true, true, true, true, true, true, true, true, true, true, true, true, false, false, false, false, false, false, false, false, false] rfl rfl (any_of HT_.out (by kernel_rfl)) (fun _ _ _ h => h) (Or.inl ⟨by rfl, ?_⟩) ?_ ?_
                    rotate_left
                    · intro w'
                      go_simp
                      with_reducible rfl
                    rotate_left
                    · simp only [Act.put, List.setIfInBounds_toArray, List.set_cons_zero, List.set_cons_succ, i64_w, i32_w]
                      rfl
                    refine pure_ (i := 61) (N := some 66) (v := ?_) (a' := ?_) #[true, true, true, true, true, true, true, true, true, true, true, true, true, true, true, true, true, true, true, true, true, true, true, true, true, true, true, true, true, true, true, true, true, true, true, true, true, true, true, true, true, true, true, true, true, true, true, true, true, true, true, true, true, true, true, true, true, true, true, true, true, true, false, false, false, false, false, false, false, false] rfl rfl (any_of HT_.out (by kernel_rfl)) (fun _ _ _ h => h) (Or.inl ⟨by rfl, ?_⟩) ?_ ?_
                    rotate_left
                    · intro w'
                      go_simp
                      with_reducible rfl
                    rotate_left
                    · simp only [Act.put, List.setIfInBounds_toArray, List.set_cons_zero, List.set_cons_succ, i64_w, i32_w]
                      rfl
                    refine pure_ (i := 62) (N := some 67) (v := ?_) (a' := ?_) #[true, true, true, true, true, true, true, true, true, true, true, true, true, true, true, true, true, true, true, true, true, true, true, true, true, true, true, true, true, true, true, true, true, true, true, true, true, true, true, true, true, true, true, true, true, true, true, true, true, true, true, true, true, true, true, true, true, true, true, true, true, true, true, false, false, false, false, false, false, false] rfl rfl (any_of HT_.out (by kernel_rfl)) (fun _ _ _ h => h) (Or.inl ⟨by rfl, ?_⟩) ?_ ?_
                    rotate_left
                    · intro w'
                      go_simp
                      with_reducible rfl
                    rotate_left
                    · simp only [Act.put, List.setIfInBounds_toArray, List.set_cons_zero, List.set_cons_succ, i64_w, i32_w]
                      rfl
                    refine pure_ (i := 63) (N := some 68) (v := ?_) (a' := ?_) #[true, true, true, true, true, true, true, true, true, true, true, true, true, true, true, true, true, true, true, true, true, true, true, true, true, true, true, true, true, true, true, true, true, true, true, true, true, true, true, true, true, true, true, true, true, true, true, true, true, true, true, true, true, true, true, true, true, true, true, true, true, true, true, true, false, false, false, false, false, false] rfl rfl (any_of HT_.out (by kernel_rfl)) (fun _ _ _ h => h) (Or.inl ⟨by rfl, ?_⟩) ?_ ?_
                    rotate_left
                    · intro w'
                      go_simp
                      with_reducible rfl
                    rotate_left
                    · simp only [Act.put, List.setIfInBounds_toArray, List.set_cons_zero, List.set_cons_succ, i64_w, i32_w]
                      rfl
                    refine pure_ (i := 65) (N := some 70) (v := ?_) (a' := ?_) #[true, true, true, true, true, true, true, true, true, true, true, true, true, true, true, true, true, true, true, true, true, true, true, true, true, true, true, true, true, true, true, true, true, true, true, true, true, true, true, true, true, true, true, true, true, true, true, true, true, true, true, true, true, true, true, true, true, true, true, true, true, true, true, true, false, true, false, false, false, false] rfl rfl (any_of HT_.out (by kernel_rfl)) (fun _ _ _ h => h) (Or.inl ⟨by rfl, ?_⟩) ?_ ?_
                    rotate_left
                    · intro w'
                      go_simp
                      with_reducible rfl
                    rotate_left
                    · simp only [Act.put, List.setIfInBounds_toArray, List.set_cons_zero, List.set_cons_succ, i64_w, i32_w]
                      rfl
                    refine take_ (i := 64) (N := some 69) (v := ?_) (a' := ?_) #[true, true, true, true, true, true, true, true, true, true, true, true, true, true, true, true, true, true, true, true, true, true, true, true, true, true, true, true, true, true, true, true, true, true, true, true, true, true, true, true, true, true, true, true, true, true, true, true, true, true, true, true, true, true, true, true, true, true, true, true, true, true, true, true, true, true, false, false, false, false] rfl rfl (take_ofW HT_.out HW_.out (by kernel_rfl)) (fun _ _ _ h => h) (Or.inl ⟨by rfl, ?_⟩) hHeld ?_ ?_
                    rotate_left
                    · rintro w' ⟨s0, s1, s2, s3, s4, s5, s6, s7, s8, s9, s10, s11, s12, s13, s14, s15, s16, s17, s18, s19⟩
                      go_simp
                      with_reducible rfl
                    rotate_left
                    · simp only [Act.put, List.setIfInBounds_toArray, List.set_cons_zero, List.set_cons_succ, i64_w, i32_w]
                      rfl
                    refine take_ (i := 66) (N := some 71) (v := ?_) (a' := ?_) #[true, true, true, true, true, true, true, true, true, true, true, true, true, true, true, true, true, true, true, true, true, true, true, true, true, true, true, true, true, true, true, true, true, true, true, true, true, true, true, true, true, true, true, true, true, true, true, true, true, true, true, true, true, true, true, true, true, true, true, true, true, true, true, true, true, true, true, false, false, false] rfl rfl (take_ofW HT_.out HW_.out (by kernel_rfl)) (fun _ _ _ h => h) (Or.inl ⟨by rfl, ?_⟩) hHeld ?_ ?_
                    rotate_left
                    · rintro w' ⟨s0, s1, s2, s3, s4, s5, s6, s7, s8, s9, s10, s11, s12, s13, s14, s15, s16, s17, s18, s19⟩
                      go_simp
                      with_reducible rfl
                    rotate_left
                    · simp only [Act.put, List.setIfInBounds_toArray, List.set_cons_zero, List.set_cons_succ, i64_w, i32_w]
                      rfl
                    refine pure_ (i := 67) (N := some 72) (v := ?_) (a' := ?_) #[true, true, true, true, true, true, true, true, true, true, true, true, true, true, true, true, true, true, true, true, true, true, true, true, true, true, true, true, true, true, true, true, true, true, true, true, true, true, true, true, true, true, true, true, true, true, true, true, true, true, true, true, true, true, true, true, true, true, true, true, true, true, true, true, true, true, true, true, false, false] rfl rfl (any_of HT_.out (by kernel_rfl)) (fun _ _ _ h => h) (Or.inl ⟨by rfl, ?_⟩) ?_ ?_
                    rotate_left
                    · intro w'
                      go_simp
                      with_reducible rfl
                    rotate_left
                    · simp only [Act.put, List.setIfInBounds_toArray, List.set_cons_zero, List.set_cons_succ, i64_w, i32_w]
                      rfl
                    refine pure_ (i := 68) (N := some 73) (v := ?_) (a' := ?_) #[true, true, true, true, true, true, true, true, true, true, true, true, true, true, true, true, true, true, true, true, true, true, true, true, true, true, true, true, true, true, true, true, true, true, true, true, true, true, true, true, true, true, true, true, true, true, true, true, true, true, true, true, true, true, true, true, true, true, true, true, true, true, true, true, true, true, true, true, true, false] rfl rfl (any_of HT_.out (by kernel_rfl)) (fun _ _ _ h => h) (Or.inl ⟨by rfl, ?_⟩) ?_ ?_
                    rotate_left
                    · intro w'
                      go_simp
                      with_reducible rfl
                    rotate_left
                    · simp only [Act.put, List.setIfInBounds_toArray, List.set_cons_zero, List.set_cons_succ, i64_w, i32_w]
                      rfl
                    refine pure_ (i := 69) (N := some 4) (v := ?_) (a' := ?_) #[true, true, true, true, true, true, true, true, true, true, true, true, true, true, true, true, true, true, true, true, true, true, true, true, true, true, true, true, true, true, true, true, true, true, true, true, true, true, true, true, true, true, true, true, true, true, true, true, true, true, true, true, true, true, true, true, true, true, true, true, true, true, true, true, true, true, true, true, true, true] rfl rfl (any_of HT_.out (by kernel_rfl)) (fun _ _ _ h => h) (Or.inl ⟨by rfl, ?_⟩) ?_ ?_
                    rotate_left
                    · intro w'
                      go_simp
                      with_reducible rfl
                    rotate_left
                    · simp only [Act.put, List.setIfInBounds_toArray, List.set_cons_zero, List.set_cons_succ, i64_w, i32_w]
                      rfl
                    refine done_ (done_of HT_.out (by kernel_rfl)) ?_
                    try go_wp2
                    go_ret
                    exact ⟨by first | rfl | (simp [errW_none, errW_some] <;> rfl) | (simp [*, errW_none, errW_some] <;> rfl), by repeat (first | (with_reducible first | exact HB.out | apply below_alloc | apply pw_below_drewN | apply below_drew1 | refine below_set ?_ GE101.out | refine below_set ?_ GE102.out) | exact HB.out)⟩
                  · rw [if_neg c12] at H
                    have c12b0 : (a0_8 == a1_8) = false := beq_eq_false_iff_ne.mpr c12
                    have c12b1 : (a0_8 != a1_8) = true := bne_iff_ne.mpr c12
                    exact absurd H (by simp)
                · rw [if_neg c11] at H
                  have c11b0 : (t103.toList == a1_7.toList) = false := beq_eq_false_iff_ne.mpr c11
                  have c11b1 : (t103.toList != a1_7.toList) = true := bne_iff_ne.mpr c11
                  exact absurd H (by simp)
              · rw [if_neg c9] at H
                have c9b0 : (a0_6 == a1_6) = false := beq_eq_false_iff_ne.mpr c9
                have c9b1 : (a0_6 != a1_6) = true := bne_iff_ne.mpr c9
                exact absurd H (by simp)
            · rw [if_neg c8] at H
              have c8b0 : (a0_5 == a1_5) = false := beq_eq_false_iff_ne.mpr c8
              have c8b1 : (a0_5 != a1_5) = true := bne_iff_ne.mpr c8
              exact absurd H (by simp)
          · rw [if_neg c7] at H
            have c7b0 : (a0_4 == a1_4) = false := beq_eq_false_iff_ne.mpr c7
            have c7b1 : (a0_4 != a1_4) = true := bne_iff_ne.mpr c7
            exact absurd H (by simp)
        · rw [if_neg c6] at H
          have c6b0 : (a0_3 == a1_3) = false := beq_eq_false_iff_ne.mpr c6
          have c6b1 : (a0_3 != a1_3) = true := bne_iff_ne.mpr c6
          exact absurd H (by simp)
      · rw [if_neg c5] at H
        have c5b0 : (a0_2.toList == a1_2.toList) = false := beq_eq_false_iff_ne.mpr c5
        have c5b1 : (a0_2.toList != a1_2.toList) = true := bne_iff_ne.mpr c5
        exact absurd H (by simp)
    · rw [if_neg c4] at H
      have c4b0 : (a0_1 == a1_1) = false := beq_eq_false_iff_ne.mpr c4
      have c4b1 : (a0_1 != a1_1) = true := bne_iff_ne.mpr c4
      exact absurd H (by simp)
  · rw [if_neg c3] at H
    have c3b0 : (a0_0 == a1_0) = false := beq_eq_false_iff_ne.mpr c3
    have c3b1 : (a0_0 != a1_0) = true := bne_iff_ne.mpr c3
    exact absurd H (by simp)

end Go.Proofs.YtjoncjnmhhimhaaDoor.PT13s
end

section
/- A function without a drawn order, run by the kernel: what its code comes to is a plain equation. -/
namespace Go.Proofs.YtjoncjnmhhimhaaDoor.Hand
set_option linter.unusedVariables false
set_option linter.unusedSimpArgs false
open Go.RowKit Go.Proofs.YtjoncjnmhhimhaaDoorW.PrintWords Go.Proofs.YtjoncjnmhhimhaaDoorW.PrintLast Go.Proofs.YtjoncjnmhhimhaaDoorW.PrintMore

def runOps (P : Program) (ops : Array Oper) : List Nat → Act → World → Option (Act × World)
  | [], a, w => some (a, w)
  | i :: rest, a, w =>
    match ops[i]? with
    | none => runOps P ops rest a w
    | some o =>
      if Region.wanted o (yielded ops a.tmps) = true then
        match (execOp a.eval o).run P w with
        | .ok (.value v) w' => runOps P ops rest (a.put o.dst v) w'
        | .ok .skip w' => runOps P ops rest (a.put o.dst undef) w'
        | _ => none
      else runOps P ops rest (a.put o.dst undef) w
theorem wpOps_of_run {P : Program} {ops : Array Oper} {Q : Exit → Act → World → Prop} : ∀ (l : List Nat) (a : Act) (w : World) (a' : Act) (w' : World), runOps P ops l a w = some (a', w') → Q .normal a' w' → wpOps P ops Q l a w := by
  intro l
  induction l with
  | nil =>
    intro a w a' w' h hq
    simp only [runOps, Option.some.injEq, Prod.mk.injEq] at h
    obtain ⟨rfl, rfl⟩ := h
    exact hq
  | cons i rest ih =>
    intro a w a' w' h hq
    simp only [runOps] at h
    simp only [wpOps]
    cases ho : ops[i]? with
    | none =>
      simp only [ho] at h
      exact ih _ _ _ _ h hq
    | some o =>
      simp only [ho] at h
      by_cases hw : Region.wanted o (yielded ops a.tmps) = true
      · simp only [hw, if_true] at h ⊢
        refine .inl ?_
        unfold Oper.wp
        cases hr : (execOp a.eval o).run P w with
        | ok x w1 =>
          rw [hr] at h
          cases x with
          | value v => exact ih _ _ _ _ h hq
          | skip => exact ih _ _ _ _ h hq
          | _ => cases h
        | halt x w1 =>
          rw [hr] at h
          cases h
      · simp only [hw, if_false, Bool.false_eq_true] at h ⊢
        exact ih _ _ _ _ h hq

def runCode (P : Program) : Nat → Code → Act → World → Option (Exit × Act × World)
  | 0, _, _, _ => none
  | n + 1, c, a, w =>
    match c with
    | .skip => some (.normal, a, w)
    | .region _ ops false => (runOps P ops (List.range ops.size) a w).map fun r => (.normal, r.1, r.2)
    | .seq x y =>
      match runCode P n x a w with
      | some (.normal, a1, w1) => runCode P n y a1 w1
      | some (.ret, a1, w1) => some (.ret, a1, w1)
      | _ => none
    | .cond e x y =>
      match a.eval e with
      | .bool true => runCode P n x a w
      | .bool false => runCode P n y a w
      | _ => none
    | .ret => some (.ret, a, w)
    | _ => none
theorem wp_of_runCode {P : Program} : ∀ (n : Nat) (c : Code) (Q : Exit → Act → World → Prop) (a : Act) (w : World) (e : Exit) (a' : Act) (w' : World), runCode P n c a w = some (e, a', w') → Q e a' w' → c.wp P Q a w := by
  intro n
  induction n with
  | zero =>
    intro c Q a w e a' w' h
    cases h
  | succ n ih =>
    intro c Q a w e a' w' h hq
    cases c with
    | skip =>
      simp only [runCode, Option.some.injEq, Prod.mk.injEq] at h
      obtain ⟨rfl, rfl, rfl⟩ := h
      exact wp_skip hq
    | ret =>
      simp only [runCode, Option.some.injEq, Prod.mk.injEq] at h
      obtain ⟨rfl, rfl, rfl⟩ := h
      exact wp_ret hq
    | region id ops draw =>
      cases draw with
      | true => simp [runCode] at h
      | false =>
        simp only [runCode, Option.map_eq_some_iff] at h
        obtain ⟨⟨a1, w1⟩, h1, h2⟩ := h
        simp only [Prod.mk.injEq] at h2
        obtain ⟨rfl, rfl, rfl⟩ := h2
        exact wp_region (wpOps_of_run _ _ _ _ _ h1 hq)
    | seq x y =>
      simp only [runCode] at h
      cases hx : runCode P n x a w with
      | none => simp [hx] at h
      | some r =>
        obtain ⟨e1, a1, w1⟩ := r
        cases e1 with
        | normal =>
          simp only [hx] at h
          exact wp_seq (ih x _ a w _ _ _ hx (ih y Q a1 w1 _ _ _ h hq))
        | ret =>
          simp only [hx, Option.some.injEq, Prod.mk.injEq] at h
          obtain ⟨rfl, rfl, rfl⟩ := h
          exact wp_seq (ih x _ a w _ _ _ hx hq)
        | _ => simp [hx] at h
    | cond t x y =>
      simp only [runCode] at h
      cases ht : a.eval t with
      | bool b =>
        cases b with
        | true =>
          simp only [ht] at h
          exact wp_cond_true ht (ih x Q a w _ _ _ h hq)
        | false =>
          simp only [ht] at h
          exact wp_cond_false ht (ih y Q a w _ _ _ h hq)
      | _ => simp [ht] at h
    | _ => simp [runCode] at h

/-- What the kernel finds: the value that is returned, the world behind, and that world once more behind the reading of the results. -/
def runFn (P : Program) (n : Nat) (fn : Func) (args : Array Value) (w : World) : Option (Value × World × World) :=
  match fn.body with
  | none => none
  | some c =>
    match runCode P n c { tmps := args ++ Array.replicate (fn.ntmps - args.size) undef, defers := [] } w with
    | some (.ret, a, w1) =>
      match a.defers with
      | [] =>
        match (results fn a.tmps).run P w1 with
        | .ok v w2 => some (v, w1, w2)
        | _ => none
      | _ => none
    | _ => none
theorem calls_of_runFn {P : Program} {f : FuncId} {fn : Func} (hf : P.funcs[f]? = some fn) (n : Nat) {args : Array Value} {w w' : World} {v : Value} (h : runFn P n fn args w = some (v, w', w')) :
    Calls P f args w fun e w2 => e = .returned v ∧ w2 = w' := by
  unfold runFn at h
  cases hb : fn.body with
  | none => simp [hb] at h
  | some c =>
    simp only [hb] at h
    cases hr : runCode P n c { tmps := args ++ Array.replicate (fn.ntmps - args.size) undef, defers := [] } w with
    | none => simp [hr] at h
    | some r =>
      obtain ⟨e, a, w1⟩ := r
      cases e with
      | ret =>
        simp only [hr] at h
        cases hd : a.defers with
        | cons _ _ => simp [hd] at h
        | nil =>
          simp only [hd] at h
          cases hres : (results fn a.tmps).run P w1 with
          | halt x w2 => simp [hres] at h
          | ok v2 w2 =>
            simp only [hres, Option.some.injEq, Prod.mk.injEq] at h
            obtain ⟨rfl, rfl, rfl⟩ := h
            exact calls_of_wp hf hb (wp_of_runCode n c _ _ _ _ _ _ hr ⟨hd, _, hres, rfl, rfl⟩)
      | _ => simp [hr] at h

theorem reps_flat {α : Type} {R : α → List Value → Prop} {size : Nat} (enc : α → List Value) (h : ∀ x, R x (enc x)) (hl : ∀ x, (enc x).length = size) (xs : List α) : Reps R size xs (xs.flatMap enc) := by
  suffices key : ∀ (ys done : List α), Reps R size done (done.flatMap enc) → Reps R size (done ++ ys) ((done ++ ys).flatMap enc) by
    exact key xs [] (Reps.none R size)
  intro ys
  induction ys with
  | nil =>
    intro done hd
    rw [List.append_nil]
    exact hd
  | cons y ys ih =>
    intro done hd
    have h1 := hd.snoc (h y) (hl y)
    have e1 : (done ++ [y]).flatMap enc = done.flatMap enc ++ enc y := by simp
    have e2 : done ++ y :: ys = (done ++ [y]) ++ ys := by simp
    rw [e2]
    exact ih (done ++ [y]) (by rw [e1]; exact h1)
/-- A literal of the call's own: a row of elements whose cells hold no rows. -/
theorem R_lit_any {α : Type} (d : Kd α) (e : Nat) (enc : α → List Value) (hM : ∀ (w : World) base ok x, d.M w base ok x (enc x)) (W : World) (xs : List α) (hm : xs.length ≤ 9223372036854775807) :
    d.R e (W.alloc (.cells (xs.flatMap enc).toArray e)) W.heap.size (fun _ => True) (.slice (some ⟨W.heap.size, 0, none⟩) xs.length xs.length) xs := by
  have hl : ∀ x, (enc x).length = d.sz := fun x => d.K_len (d.K_of_M (hM W 0 (fun _ => True) x))
  refine ⟨fun _ _ => trivial, xs.flatMap enc, ?_, reps_flat enc (fun x => hM _ _ _ x) hl xs⟩
  have h := World.ownsRow_lit (base := W.heap.size) (e := e) (size := d.sz) W (xs.flatMap enc).toArray xs.length (Nat.le_refl _) (by simpa [maxLen] using hm) (by
    rw [List.size_toArray]
    exact (reps_flat (R := fun _ _ => True) enc (fun _ => trivial) hl xs).1)
  simpa using h
end Go.Proofs.YtjoncjnmhhimhaaDoor.Hand
end

section
-- Written by the kit's print.py, driven by this place's wip/tools/myprint.py. Not trusted: Lean checks it.
namespace Go.Proofs.YtjoncjnmhhimhaaDoor.PT13r
open Go.RowKit Go.Proofs.YtjoncjnmhhimhaaDoor.Hand Go.Proofs.YtjoncjnmhhimhaaDoorW.PrintWords Go.Proofs.YtjoncjnmhhimhaaDoorW.PrintLast Go.Proofs.YtjoncjnmhhimhaaDoorW.PrintMore
attribute [local go_sem] max2_int min2_int max_two min_two max_three min_three max_four min_four   -- for this text's walks alone
set_option linter.unusedVariables false
set_option linter.unusedSimpArgs false



def errW : Option Int → Value
  | none => .nilIface
  | some c => .iface 0 (.int .i64 c)
theorem errW_none : errW none = .nilIface := rfl
theorem errW_some (c : Int) : errW (some c) = .iface 0 (.int .i64 c) := rfl

theorem info42 : (Tryd.prog.info? 42).map (fun i => (i.zero, i.size, i.bytes)) = some (some (.agg #[(.int .i64 0), (.int .i64 0), (.string ⟨#[]⟩), (.int .i64 0), (.int .i64 0), (.int .i64 0), (.int .i64 0), (.string ⟨#[]⟩), (.int .i64 0), (.int .u32 0)]), 10, 96) := by kernel_rfl
-- the values' own types
/-! #### struct type 42 -/
structure S42 where
  f0 : Int
  f1 : Int
  f2 : ByteArray
  f3 : Int
  f4 : Int
  f5 : Int
  f6 : Int
  f7 : ByteArray
  f8 : Int
  f9 : Int
def z42 : S42 := ⟨(0 : Int), (0 : Int), (⟨#[]⟩ : ByteArray), (0 : Int), (0 : Int), (0 : Int), (0 : Int), (⟨#[]⟩ : ByteArray), (0 : Int), (0 : Int)⟩
def k42 : Kd S42 := Kd.iso (Kd.pair (Kd.int .i64) (Kd.pair (Kd.int .i64) (Kd.pair Kd.string (Kd.pair (Kd.int .i64) (Kd.pair (Kd.int .i64) (Kd.pair (Kd.int .i64) (Kd.pair (Kd.int .i64) (Kd.pair Kd.string (Kd.pair (Kd.int .i64) (Kd.int .u32)))))))))) (fun x : S42 => (x.f0, x.f1, x.f2, x.f3, x.f4, x.f5, x.f6, x.f7, x.f8, x.f9))
theorem k42_open {w : World} {x : S42} {cs : List Value} (h : k42.K w x cs) : cs = [.int .i64 x.f0, .int .i64 x.f1, .string x.f2, .int .i64 x.f3, .int .i64 x.f4, .int .i64 x.f5, .int .i64 x.f6, .string x.f7, .int .i64 x.f8, .int .u32 x.f9] := by
  obtain ⟨_, _, rfl, rfl, ⟨_, _, rfl, rfl, ⟨_, _, rfl, rfl, ⟨_, _, rfl, rfl, ⟨_, _, rfl, rfl, ⟨_, _, rfl, rfl, ⟨_, _, rfl, rfl, ⟨_, _, rfl, rfl, ⟨_, _, rfl, rfl, rfl⟩⟩⟩⟩⟩⟩⟩⟩⟩ := h
  exact rfl
theorem k42_openM {w : World} {base : Nat} {ok : Nat → Prop} {x : S42} {cs : List Value} (h : k42.M w base ok x cs) : cs = [.int .i64 x.f0, .int .i64 x.f1, .string x.f2, .int .i64 x.f3, .int .i64 x.f4, .int .i64 x.f5, .int .i64 x.f6, .string x.f7, .int .i64 x.f8, .int .u32 x.f9] := by
  obtain ⟨_, _, rfl, rfl, ⟨_, _, rfl, rfl, ⟨_, _, rfl, rfl, ⟨_, _, rfl, rfl, ⟨_, _, rfl, rfl, ⟨_, _, rfl, rfl, ⟨_, _, rfl, rfl, ⟨_, _, rfl, rfl, ⟨_, _, rfl, rfl, rfl⟩⟩⟩⟩⟩⟩⟩⟩⟩ := h
  exact rfl
theorem k42_mk (w : World) (x : S42)  : k42.K w x [.int .i64 x.f0, .int .i64 x.f1, .string x.f2, .int .i64 x.f3, .int .i64 x.f4, .int .i64 x.f5, .int .i64 x.f6, .string x.f7, .int .i64 x.f8, .int .u32 x.f9] := ⟨[.int .i64 x.f0], [.int .i64 x.f1, .string x.f2, .int .i64 x.f3, .int .i64 x.f4, .int .i64 x.f5, .int .i64 x.f6, .string x.f7, .int .i64 x.f8, .int .u32 x.f9], rfl, rfl, ⟨[.int .i64 x.f1], [.string x.f2, .int .i64 x.f3, .int .i64 x.f4, .int .i64 x.f5, .int .i64 x.f6, .string x.f7, .int .i64 x.f8, .int .u32 x.f9], rfl, rfl, ⟨[.string x.f2], [.int .i64 x.f3, .int .i64 x.f4, .int .i64 x.f5, .int .i64 x.f6, .string x.f7, .int .i64 x.f8, .int .u32 x.f9], rfl, rfl, ⟨[.int .i64 x.f3], [.int .i64 x.f4, .int .i64 x.f5, .int .i64 x.f6, .string x.f7, .int .i64 x.f8, .int .u32 x.f9], rfl, rfl, ⟨[.int .i64 x.f4], [.int .i64 x.f5, .int .i64 x.f6, .string x.f7, .int .i64 x.f8, .int .u32 x.f9], rfl, rfl, ⟨[.int .i64 x.f5], [.int .i64 x.f6, .string x.f7, .int .i64 x.f8, .int .u32 x.f9], rfl, rfl, ⟨[.int .i64 x.f6], [.string x.f7, .int .i64 x.f8, .int .u32 x.f9], rfl, rfl, ⟨[.string x.f7], [.int .i64 x.f8, .int .u32 x.f9], rfl, rfl, ⟨[.int .i64 x.f8], [.int .u32 x.f9], rfl, rfl, rfl⟩⟩⟩⟩⟩⟩⟩⟩⟩
theorem k42_mkM (w : World) (base : Nat) (ok : Nat → Prop) (x : S42)  : k42.M w base ok x [.int .i64 x.f0, .int .i64 x.f1, .string x.f2, .int .i64 x.f3, .int .i64 x.f4, .int .i64 x.f5, .int .i64 x.f6, .string x.f7, .int .i64 x.f8, .int .u32 x.f9] := ⟨[.int .i64 x.f0], [.int .i64 x.f1, .string x.f2, .int .i64 x.f3, .int .i64 x.f4, .int .i64 x.f5, .int .i64 x.f6, .string x.f7, .int .i64 x.f8, .int .u32 x.f9], rfl, rfl, ⟨[.int .i64 x.f1], [.string x.f2, .int .i64 x.f3, .int .i64 x.f4, .int .i64 x.f5, .int .i64 x.f6, .string x.f7, .int .i64 x.f8, .int .u32 x.f9], rfl, rfl, ⟨[.string x.f2], [.int .i64 x.f3, .int .i64 x.f4, .int .i64 x.f5, .int .i64 x.f6, .string x.f7, .int .i64 x.f8, .int .u32 x.f9], rfl, rfl, ⟨[.int .i64 x.f3], [.int .i64 x.f4, .int .i64 x.f5, .int .i64 x.f6, .string x.f7, .int .i64 x.f8, .int .u32 x.f9], rfl, rfl, ⟨[.int .i64 x.f4], [.int .i64 x.f5, .int .i64 x.f6, .string x.f7, .int .i64 x.f8, .int .u32 x.f9], rfl, rfl, ⟨[.int .i64 x.f5], [.int .i64 x.f6, .string x.f7, .int .i64 x.f8, .int .u32 x.f9], rfl, rfl, ⟨[.int .i64 x.f6], [.string x.f7, .int .i64 x.f8, .int .u32 x.f9], rfl, rfl, ⟨[.string x.f7], [.int .i64 x.f8, .int .u32 x.f9], rfl, rfl, ⟨[.int .i64 x.f8], [.int .u32 x.f9], rfl, rfl, rfl⟩⟩⟩⟩⟩⟩⟩⟩⟩
def rd_T42 (xs : List S42) (i : Int) : S42 := xs.getD i.toNat z42
theorem at_T42 {w : World} {A : Option Addr} {n : Nat} {xs : List S42} (h : Kd.C k42 w A n xs) (i : Int) (h0 : 0 ≤ i) (h1 : i < n) : ∃ ad , A = some ad ∧ w.cell? (ad.add (i.toNat * 10)) = some (.int .i64 (rd_T42 xs i).f0) ∧ w.cell? ⟨(ad.add (i.toNat * 10)).block, (ad.add (i.toNat * 10)).off + 1, none⟩ = some (.int .i64 (rd_T42 xs i).f1) ∧ w.cell? ⟨(ad.add (i.toNat * 10)).block, (ad.add (i.toNat * 10)).off + 2, none⟩ = some (.string (rd_T42 xs i).f2) ∧ w.cell? ⟨(ad.add (i.toNat * 10)).block, (ad.add (i.toNat * 10)).off + 3, none⟩ = some (.int .i64 (rd_T42 xs i).f3) ∧ w.cell? ⟨(ad.add (i.toNat * 10)).block, (ad.add (i.toNat * 10)).off + 4, none⟩ = some (.int .i64 (rd_T42 xs i).f4) ∧ w.cell? ⟨(ad.add (i.toNat * 10)).block, (ad.add (i.toNat * 10)).off + 5, none⟩ = some (.int .i64 (rd_T42 xs i).f5) ∧ w.cell? ⟨(ad.add (i.toNat * 10)).block, (ad.add (i.toNat * 10)).off + 6, none⟩ = some (.int .i64 (rd_T42 xs i).f6) ∧ w.cell? ⟨(ad.add (i.toNat * 10)).block, (ad.add (i.toNat * 10)).off + 7, none⟩ = some (.string (rd_T42 xs i).f7) ∧ w.cell? ⟨(ad.add (i.toNat * 10)).block, (ad.add (i.toNat * 10)).off + 8, none⟩ = some (.int .i64 (rd_T42 xs i).f8) ∧ w.cell? ⟨(ad.add (i.toNat * 10)).block, (ad.add (i.toNat * 10)).off + 9, none⟩ = some (.int .u32 (rd_T42 xs i).f9) := by
  obtain ⟨ad, c, e, _, hK, hc0⟩ := Kd.C_get h z42 i h0 h1
  have hc : ∀ j u, c[j]? = some u → w.cell? (ad.add (i.toNat * 10 + j)) = some u := hc0
  obtain rfl := k42_open hK
  exact ⟨ad, e, hc 0 _ rfl, by rw [← add_field _ _ 1 (by omega)]; exact hc 1 _ rfl, by rw [← add_field _ _ 2 (by omega)]; exact hc 2 _ rfl, by rw [← add_field _ _ 3 (by omega)]; exact hc 3 _ rfl, by rw [← add_field _ _ 4 (by omega)]; exact hc 4 _ rfl, by rw [← add_field _ _ 5 (by omega)]; exact hc 5 _ rfl, by rw [← add_field _ _ 6 (by omega)]; exact hc 6 _ rfl, by rw [← add_field _ _ 7 (by omega)]; exact hc 7 _ rfl, by rw [← add_field _ _ 8 (by omega)]; exact hc 8 _ rfl, by rw [← add_field _ _ 9 (by omega)]; exact hc 9 _ rfl⟩

end Go.Proofs.YtjoncjnmhhimhaaDoor.PT13r
namespace Go.Proofs.YtjoncjnmhhimhaaDoor.PT13r
open Go.RowKit Go.Proofs.YtjoncjnmhhimhaaDoor.Hand Go.Proofs.YtjoncjnmhhimhaaDoorW.PrintWords Go.Proofs.YtjoncjnmhhimhaaDoorW.PrintLast Go.Proofs.YtjoncjnmhhimhaaDoorW.PrintMore
attribute [local go_sem] max2_int min2_int max_two min_two max_three min_three max_four min_four   -- for this text's walks alone
set_option linter.unusedVariables false
set_option linter.unusedSimpArgs false

/-! ### pyxref13_Table: function 28 -/
def pyxref13_Table.f  : Option ((List (S42))) := if 19 + 3 ≤ 9223372036854775807 then (if 19 + 4 ≤ 9223372036854775807 then (some (([(⟨1, 1, (⟨#[77, 76, 45, 75, 69, 77, 45, 53, 49, 50]⟩ : ByteArray), 800, 1632, 64, 0, (⟨#[50, 46, 49, 54, 46, 56, 52, 48, 46, 49, 46, 49, 48, 49, 46, 51, 46, 52, 46]⟩ : ByteArray) ++ (⟨#[52, 46, 49]⟩ : ByteArray), (-111), 0⟩ : S42), (⟨2, 1, (⟨#[77, 76, 45, 75, 69, 77, 45, 55, 54, 56]⟩ : ByteArray), 1184, 2400, 64, 0, (⟨#[50, 46, 49, 54, 46, 56, 52, 48, 46, 49, 46, 49, 48, 49, 46, 51, 46, 52, 46]⟩ : ByteArray) ++ (⟨#[52, 46, 50]⟩ : ByteArray), (-112), 0⟩ : S42), (⟨3, 1, (⟨#[77, 76, 45, 75, 69, 77, 45, 49, 48, 50, 52]⟩ : ByteArray), 1568, 3168, 64, 0, (⟨#[50, 46, 49, 54, 46, 56, 52, 48, 46, 49, 46, 49, 48, 49, 46, 51, 46, 52, 46]⟩ : ByteArray) ++ (⟨#[52, 46, 51]⟩ : ByteArray), (-113), 0⟩ : S42), (⟨4, 2, (⟨#[77, 76, 45, 68, 83, 65, 45, 52, 52]⟩ : ByteArray), 1312, 2560, 32, 2420, (⟨#[50, 46, 49, 54, 46, 56, 52, 48, 46, 49, 46, 49, 48, 49, 46, 51, 46, 52, 46]⟩ : ByteArray) ++ (⟨#[51, 46, 49, 55]⟩ : ByteArray), (-48), 0⟩ : S42), (⟨5, 2, (⟨#[77, 76, 45, 68, 83, 65, 45, 54, 53]⟩ : ByteArray), 1952, 4032, 32, 3309, (⟨#[50, 46, 49, 54, 46, 56, 52, 48, 46, 49, 46, 49, 48, 49, 46, 51, 46, 52, 46]⟩ : ByteArray) ++ (⟨#[51, 46, 49, 56]⟩ : ByteArray), (-49), 0⟩ : S42), (⟨6, 2, (⟨#[77, 76, 45, 68, 83, 65, 45, 56, 55]⟩ : ByteArray), 2592, 4896, 32, 4627, (⟨#[50, 46, 49, 54, 46, 56, 52, 48, 46, 49, 46, 49, 48, 49, 46, 51, 46, 52, 46]⟩ : ByteArray) ++ (⟨#[51, 46, 49, 57]⟩ : ByteArray), (-50), 0⟩ : S42), (⟨7, 3, (⟨#[83, 76, 72, 45, 68, 83, 65, 45, 83, 72, 65, 50, 45, 49, 50, 56, 115]⟩ : ByteArray), 32, 64, 0, 7856, (⟨#[50, 46, 49, 54, 46, 56, 52, 48, 46, 49, 46, 49, 48, 49, 46, 51, 46, 52, 46]⟩ : ByteArray) ++ (⟨#[51, 46, 50, 48]⟩ : ByteArray), (-51), 0⟩ : S42), (⟨8, 3, (⟨#[83, 76, 72, 45, 68, 83, 65, 45, 83, 72, 65, 50, 45, 49, 50, 56, 102]⟩ : ByteArray), 32, 64, 0, 17088, (⟨#[50, 46, 49, 54, 46, 56, 52, 48, 46, 49, 46, 49, 48, 49, 46, 51, 46, 52, 46]⟩ : ByteArray) ++ (⟨#[51, 46, 50, 49]⟩ : ByteArray), (-52), 0⟩ : S42), (⟨9, 3, (⟨#[83, 76, 72, 45, 68, 83, 65, 45, 83, 72, 65, 50, 45, 49, 57, 50, 115]⟩ : ByteArray), 48, 96, 0, 16224, (⟨#[50, 46, 49, 54, 46, 56, 52, 48, 46, 49, 46, 49, 48, 49, 46, 51, 46, 52, 46]⟩ : ByteArray) ++ (⟨#[51, 46, 50, 50]⟩ : ByteArray), (-53), 0⟩ : S42), (⟨10, 3, (⟨#[83, 76, 72, 45, 68, 83, 65, 45, 83, 72, 65, 50, 45, 49, 57, 50, 102]⟩ : ByteArray), 48, 96, 0, 35664, (⟨#[50, 46, 49, 54, 46, 56, 52, 48, 46, 49, 46, 49, 48, 49, 46, 51, 46, 52, 46]⟩ : ByteArray) ++ (⟨#[51, 46, 50, 51]⟩ : ByteArray), (-54), 0⟩ : S42), (⟨11, 3, (⟨#[83, 76, 72, 45, 68, 83, 65, 45, 83, 72, 65, 50, 45, 50, 53, 54, 115]⟩ : ByteArray), 64, 128, 0, 29792, (⟨#[50, 46, 49, 54, 46, 56, 52, 48, 46, 49, 46, 49, 48, 49, 46, 51, 46, 52, 46]⟩ : ByteArray) ++ (⟨#[51, 46, 50, 52]⟩ : ByteArray), (-55), 0⟩ : S42), (⟨12, 3, (⟨#[83, 76, 72, 45, 68, 83, 65, 45, 83, 72, 65, 50, 45, 50, 53, 54, 102]⟩ : ByteArray), 64, 128, 0, 49856, (⟨#[50, 46, 49, 54, 46, 56, 52, 48, 46, 49, 46, 49, 48, 49, 46, 51, 46, 52, 46]⟩ : ByteArray) ++ (⟨#[51, 46, 50, 53]⟩ : ByteArray), (-56), 0⟩ : S42), (⟨13, 3, (⟨#[83, 76, 72, 45, 68, 83, 65, 45, 83, 72, 65, 75, 69, 45, 49, 50, 56, 115]⟩ : ByteArray), 32, 64, 0, 7856, (⟨#[50, 46, 49, 54, 46, 56, 52, 48, 46, 49, 46, 49, 48, 49, 46, 51, 46, 52, 46]⟩ : ByteArray) ++ (⟨#[51, 46, 50, 54]⟩ : ByteArray), (-57), 0⟩ : S42), (⟨14, 3, (⟨#[83, 76, 72, 45, 68, 83, 65, 45, 83, 72, 65, 75, 69, 45, 49, 50, 56, 102]⟩ : ByteArray), 32, 64, 0, 17088, (⟨#[50, 46, 49, 54, 46, 56, 52, 48, 46, 49, 46, 49, 48, 49, 46, 51, 46, 52, 46]⟩ : ByteArray) ++ (⟨#[51, 46, 50, 55]⟩ : ByteArray), (-58), 0⟩ : S42), (⟨15, 3, (⟨#[83, 76, 72, 45, 68, 83, 65, 45, 83, 72, 65, 75, 69, 45, 49, 57, 50, 115]⟩ : ByteArray), 48, 96, 0, 16224, (⟨#[50, 46, 49, 54, 46, 56, 52, 48, 46, 49, 46, 49, 48, 49, 46, 51, 46, 52, 46]⟩ : ByteArray) ++ (⟨#[51, 46, 50, 56]⟩ : ByteArray), (-59), 0⟩ : S42), (⟨16, 3, (⟨#[83, 76, 72, 45, 68, 83, 65, 45, 83, 72, 65, 75, 69, 45, 49, 57, 50, 102]⟩ : ByteArray), 48, 96, 0, 35664, (⟨#[50, 46, 49, 54, 46, 56, 52, 48, 46, 49, 46, 49, 48, 49, 46, 51, 46, 52, 46]⟩ : ByteArray) ++ (⟨#[51, 46, 50, 57]⟩ : ByteArray), (-60), 0⟩ : S42), (⟨17, 3, (⟨#[83, 76, 72, 45, 68, 83, 65, 45, 83, 72, 65, 75, 69, 45, 50, 53, 54, 115]⟩ : ByteArray), 64, 128, 0, 29792, (⟨#[50, 46, 49, 54, 46, 56, 52, 48, 46, 49, 46, 49, 48, 49, 46, 51, 46, 52, 46]⟩ : ByteArray) ++ (⟨#[51, 46, 51, 48]⟩ : ByteArray), (-61), 0⟩ : S42), (⟨18, 3, (⟨#[83, 76, 72, 45, 68, 83, 65, 45, 83, 72, 65, 75, 69, 45, 50, 53, 54, 102]⟩ : ByteArray), 64, 128, 0, 49856, (⟨#[50, 46, 49, 54, 46, 56, 52, 48, 46, 49, 46, 49, 48, 49, 46, 51, 46, 52, 46]⟩ : ByteArray) ++ (⟨#[51, 46, 51, 49]⟩ : ByteArray), (-62), 0⟩ : S42), (⟨19, 4, (⟨#[72, 83, 83, 47, 76, 77, 83]⟩ : ByteArray), 0, 0, 0, 0, (⟨#[49, 46, 50, 46, 56, 52, 48, 46, 49, 49, 51, 53, 52, 57, 46, 49, 46, 57, 46, 49, 54, 46, 51, 46, 49, 55]⟩ : ByteArray), 0, 0⟩ : S42), (⟨20, 5, (⟨#[88, 77, 83, 83, 45, 83, 72, 65, 50, 95, 49, 48, 95, 50, 53, 54]⟩ : ByteArray), 68, 0, 0, 2500, (⟨#[49, 46, 51, 46, 54, 46, 49, 46, 53, 46, 53, 46, 55, 46, 54, 46, 51, 52]⟩ : ByteArray), 0, 1⟩ : S42), (⟨21, 5, (⟨#[88, 77, 83, 83, 45, 83, 72, 65, 50, 95, 49, 54, 95, 50, 53, 54]⟩ : ByteArray), 68, 0, 0, 2692, (⟨#[49, 46, 51, 46, 54, 46, 49, 46, 53, 46, 53, 46, 55, 46, 54, 46, 51, 52]⟩ : ByteArray), 0, 2⟩ : S42), (⟨22, 5, (⟨#[88, 77, 83, 83, 45, 83, 72, 65, 50, 95, 50, 48, 95, 50, 53, 54]⟩ : ByteArray), 68, 0, 0, 2820, (⟨#[49, 46, 51, 46, 54, 46, 49, 46, 53, 46, 53, 46, 55, 46, 54, 46, 51, 52]⟩ : ByteArray), 0, 3⟩ : S42), (⟨23, 5, (⟨#[88, 77, 83, 83, 45, 83, 72, 65, 50, 95, 49, 48, 95, 53, 49, 50]⟩ : ByteArray), 132, 0, 0, 9092, (⟨#[49, 46, 51, 46, 54, 46, 49, 46, 53, 46, 53, 46, 55, 46, 54, 46, 51, 52]⟩ : ByteArray), 0, 4⟩ : S42), (⟨24, 5, (⟨#[88, 77, 83, 83, 45, 83, 72, 65, 50, 95, 49, 54, 95, 53, 49, 50]⟩ : ByteArray), 132, 0, 0, 9476, (⟨#[49, 46, 51, 46, 54, 46, 49, 46, 53, 46, 53, 46, 55, 46, 54, 46, 51, 52]⟩ : ByteArray), 0, 5⟩ : S42), (⟨25, 5, (⟨#[88, 77, 83, 83, 45, 83, 72, 65, 50, 95, 50, 48, 95, 53, 49, 50]⟩ : ByteArray), 132, 0, 0, 9732, (⟨#[49, 46, 51, 46, 54, 46, 49, 46, 53, 46, 53, 46, 55, 46, 54, 46, 51, 52]⟩ : ByteArray), 0, 6⟩ : S42)] : List (S42)))) else (none)) else (none)
set_option maxHeartbeats 8000000 in
set_option maxRecDepth 100000 in
theorem pyxref13_Table.calls  (r : List (S42)) (w : World) (h : pyxref13_Table.f  = some r) :
    Calls Tryd.prog 28 #[] w fun e w' => ∃ v0_ : Value, e = .returned (v0_) ∧ Kd.R k42 42 w' w.heap.size (fun _ => True) v0_ r ∧ Below w.heap.size w w' := by
  have hs : pyxref13_Table.f = some (pyxref13_Table.f.getD []) := by kernel_rfl
  obtain rfl := Option.some.inj (hs.symm.trans h)
  clear h hs
  have hrun : Hand.runFn Tryd.prog 10 Tryd.f28 #[] w = some (.slice (some ⟨w.heap.size, 0, none⟩) (pyxref13_Table.f.getD []).length (pyxref13_Table.f.getD []).length, w.alloc (.cells ((pyxref13_Table.f.getD []).flatMap fun x : S42 => [.int .i64 x.f0, .int .i64 x.f1, .string x.f2, .int .i64 x.f3, .int .i64 x.f4, .int .i64 x.f5, .int .i64 x.f6, .string x.f7, .int .i64 x.f8, .int .u32 x.f9]).toArray 42), w.alloc (.cells ((pyxref13_Table.f.getD []).flatMap fun x : S42 => [.int .i64 x.f0, .int .i64 x.f1, .string x.f2, .int .i64 x.f3, .int .i64 x.f4, .int .i64 x.f5, .int .i64 x.f6, .string x.f7, .int .i64 x.f8, .int .u32 x.f9]).toArray 42)) := by kernel_rfl
  refine (Hand.calls_of_runFn Tryd.func28 10 hrun).mono ?_
  rintro e w2 ⟨rfl, rfl⟩
  refine ⟨_, rfl, Hand.R_lit_any k42 42 _ (fun w base ok x => ⟨[_], _, rfl, rfl, ⟨[_], _, rfl, rfl, ⟨[_], _, rfl, rfl, ⟨[_], _, rfl, rfl, ⟨[_], _, rfl, rfl, ⟨[_], _, rfl, rfl, ⟨[_], _, rfl, rfl, ⟨[_], _, rfl, rfl, ⟨[_], _, rfl, rfl, rfl⟩⟩⟩⟩⟩⟩⟩⟩⟩) w _ (by rw [show (pyxref13_Table.f.getD []).length = 25 by kernel_rfl]; decide), below_alloc (Below.refl _ _) _⟩

/-! ### pyxref13_Get: function 27 -/
def pyxref13_Get.f (a0 : Int) : Option (Int × Int × ByteArray × Int × Int × Int × Int × ByteArray × Int × Int) := if a0 < 1 then (some (0, 0, (⟨#[]⟩ : ByteArray), 0, 0, 0, 0, (⟨#[]⟩ : ByteArray), 0, 0)) else (if a0 > 25 then (some (0, 0, (⟨#[]⟩ : ByteArray), 0, 0, 0, 0, (⟨#[]⟩ : ByteArray), 0, 0)) else ((pyxref13_Table.f).bind fun t105 => (if 0 ≤ (wrap64 (a0 - 1)) then (if (wrap64 (a0 - 1)) < (t105.length : Int) then (some ((rd_T42 t105 (wrap64 (a0 - 1))).f0, (rd_T42 t105 (wrap64 (a0 - 1))).f1, (rd_T42 t105 (wrap64 (a0 - 1))).f2, (rd_T42 t105 (wrap64 (a0 - 1))).f3, (rd_T42 t105 (wrap64 (a0 - 1))).f4, (rd_T42 t105 (wrap64 (a0 - 1))).f5, (rd_T42 t105 (wrap64 (a0 - 1))).f6, (rd_T42 t105 (wrap64 (a0 - 1))).f7, (rd_T42 t105 (wrap64 (a0 - 1))).f8, (rd_T42 t105 (wrap64 (a0 - 1))).f9)) else (none)) else (none))))
set_option maxHeartbeats 8000000 in
set_option maxRecDepth 100000 in
theorem pyxref13_Get.calls (a0 : Int) (r1 : Int) (r2 : Int) (r3 : ByteArray) (r4 : Int) (r5 : Int) (r6 : Int) (r7 : Int) (r8 : ByteArray) (r9 : Int) (r10 : Int) (w : World) (h : pyxref13_Get.f a0 = some (r1, r2, r3, r4, r5, r6, r7, r8, r9, r10)) :
    Calls Tryd.prog 27 #[.int .i64 a0] w fun e w' => e = .returned (.agg #[.int .i64 r1, .int .i64 r2, .string r3, .int .i64 r4, .int .i64 r5, .int .i64 r6, .int .i64 r7, .string r8, .int .i64 r9, .int .u32 r10]) ∧ Below w.heap.size w w' := by
  have hu42 := Tryd.underlying42
  have HB := Aside0.mk (Below.refl w.heap.size w)
  have H : (if a0 < 1 then (some (0, 0, (⟨#[]⟩ : ByteArray), 0, 0, 0, 0, (⟨#[]⟩ : ByteArray), 0, 0)) else (if a0 > 25 then (some (0, 0, (⟨#[]⟩ : ByteArray), 0, 0, 0, 0, (⟨#[]⟩ : ByteArray), 0, 0)) else ((pyxref13_Table.f).bind fun t105 => (if 0 ≤ (wrap64 (a0 - 1)) then (if (wrap64 (a0 - 1)) < (t105.length : Int) then (some ((rd_T42 t105 (wrap64 (a0 - 1))).f0, (rd_T42 t105 (wrap64 (a0 - 1))).f1, (rd_T42 t105 (wrap64 (a0 - 1))).f2, (rd_T42 t105 (wrap64 (a0 - 1))).f3, (rd_T42 t105 (wrap64 (a0 - 1))).f4, (rd_T42 t105 (wrap64 (a0 - 1))).f5, (rd_T42 t105 (wrap64 (a0 - 1))).f6, (rd_T42 t105 (wrap64 (a0 - 1))).f7, (rd_T42 t105 (wrap64 (a0 - 1))).f8, (rd_T42 t105 (wrap64 (a0 - 1))).f9)) else (none)) else (none))))) = some (r1, r2, r3, r4, r5, r6, r7, r8, r9, r10) := h
  clear h
  by_cases c2 : a0 < 1
  · rw [if_pos c2] at H
    have c2b0 : decide (a0 < 1) = true := decide_eq_true c2
    clear c2
    simp only [Option.some.injEq, Prod.mk.injEq] at H
    obtain ⟨rfl, rfl, rfl, rfl, rfl, rfl, rfl, rfl, rfl, rfl⟩ := H
    go_enter Tryd.func27, Tryd.ntmps27
    go_wp2_with (first | ((with_reducible refine gate_dst (N := 2) rfl ?_); refine box_event ?hg (N := 2) ?hd (cs := #[.int .i64 0, .int .i64 0, .string (⟨#[]⟩ : ByteArray), .int .i64 0, .int .i64 0, .int .i64 0, .int .i64 0, .string (⟨#[]⟩ : ByteArray), .int .i64 0, .int .u32 0]) (t := 42) ?hr ?_; (case hd => rfl); (case hg => rfl); (case hr => first | (go_simp; done) | (go_simp; rfl)); intro gb104 hg w3 hbox hb; have n0_ := Aside0.mk (below_step (by repeat (first | (with_reducible first | exact HB.out | apply below_alloc | apply pw_below_drewN | apply below_drew1) | exact HB.out)) hb); have n1_ := Aside0.mk (hbox); have n2_ := Aside0.mk ((by rw [hg]; exact (below_size (by repeat (first | (with_reducible first | exact HB.out | apply below_alloc | apply pw_below_drewN | apply below_drew1) | exact HB.out))) : w.heap.size ≤ gb104)); have n3_ := Aside0.mk ((by rw [hg]; exact (below_size (by repeat (first | (with_reducible first | exact HB.out | apply below_alloc | apply pw_below_drewN | apply below_drew1) | exact HB.out))) : w.heap.size ≤ gb104)); clear HB; have HB := n0_; have BK104 := n1_; have GW104 := n2_; have GE104 := n3_; clear n0_ n1_ n2_ n3_; clear hb hbox hg; have hcz4_0 : w3.cell? ⟨gb104, 0, none⟩ = some (.int .i64 0) := (blk_cell BK104.out 0).trans rfl; have hcz4_1 : w3.cell? ⟨gb104, 1, none⟩ = some (.int .i64 0) := (blk_cell BK104.out 1).trans rfl; have hcz4_2 : w3.cell? ⟨gb104, 2, none⟩ = some (.string (⟨#[]⟩ : ByteArray)) := (blk_cell BK104.out 2).trans rfl; have hcz4_3 : w3.cell? ⟨gb104, 3, none⟩ = some (.int .i64 0) := (blk_cell BK104.out 3).trans rfl; have hcz4_4 : w3.cell? ⟨gb104, 4, none⟩ = some (.int .i64 0) := (blk_cell BK104.out 4).trans rfl; have hcz4_5 : w3.cell? ⟨gb104, 5, none⟩ = some (.int .i64 0) := (blk_cell BK104.out 5).trans rfl; have hcz4_6 : w3.cell? ⟨gb104, 6, none⟩ = some (.int .i64 0) := (blk_cell BK104.out 6).trans rfl; have hcz4_7 : w3.cell? ⟨gb104, 7, none⟩ = some (.string (⟨#[]⟩ : ByteArray)) := (blk_cell BK104.out 7).trans rfl; have hcz4_8 : w3.cell? ⟨gb104, 8, none⟩ = some (.int .i64 0) := (blk_cell BK104.out 8).trans rfl; have hcz4_9 : w3.cell? ⟨gb104, 9, none⟩ = some (.int .u32 0) := (blk_cell BK104.out 9).trans rfl; have hfz4_0 := blk_frozen BK104.out 0; have hfz4_1 := blk_frozen BK104.out 1; have hfz4_2 := blk_frozen BK104.out 2; have hfz4_3 := blk_frozen BK104.out 3; have hfz4_4 := blk_frozen BK104.out 4; have hfz4_5 := blk_frozen BK104.out 5; have hfz4_6 := blk_frozen BK104.out 6; have hfz4_7 := blk_frozen BK104.out 7; have hfz4_8 := blk_frozen BK104.out 8; have hfz4_9 := blk_frozen BK104.out 9))
    refine bodyPost_ret (results_cell_row rfl _ _ gb104 42 #[.int .i64 0, .int .i64 0, .string (⟨#[]⟩ : ByteArray), .int .i64 0, .int .i64 0, .int .i64 0, .int .i64 0, .string (⟨#[]⟩ : ByteArray), .int .i64 0, .int .u32 0] (0, 0) _ rfl (by (with_reducible repeat (first | refine blk_drewN ?_ _ | refine blk_drew ?_ | refine blk_alloc ?_ _)); refine blk_put (cs := #[.int .i64 0, .int .i64 0, .string (⟨#[]⟩ : ByteArray), .int .i64 0, .int .i64 0, .int .i64 0, .int .i64 0, .string (⟨#[]⟩ : ByteArray), .int .i64 0, .int .u32 0]) ?_ 9 _ rfl; (with_reducible repeat (first | refine blk_drewN ?_ _ | refine blk_drew ?_ | refine blk_alloc ?_ _)); refine blk_put (cs := #[.int .i64 0, .int .i64 0, .string (⟨#[]⟩ : ByteArray), .int .i64 0, .int .i64 0, .int .i64 0, .int .i64 0, .string (⟨#[]⟩ : ByteArray), .int .i64 0, .int .u32 0]) ?_ 8 _ rfl; (with_reducible repeat (first | refine blk_drewN ?_ _ | refine blk_drew ?_ | refine blk_alloc ?_ _)); refine blk_put (cs := #[.int .i64 0, .int .i64 0, .string (⟨#[]⟩ : ByteArray), .int .i64 0, .int .i64 0, .int .i64 0, .int .i64 0, .string (⟨#[]⟩ : ByteArray), .int .i64 0, .int .u32 0]) ?_ 7 _ rfl; (with_reducible repeat (first | refine blk_drewN ?_ _ | refine blk_drew ?_ | refine blk_alloc ?_ _)); refine blk_put (cs := #[.int .i64 0, .int .i64 0, .string (⟨#[]⟩ : ByteArray), .int .i64 0, .int .i64 0, .int .i64 0, .int .i64 0, .string (⟨#[]⟩ : ByteArray), .int .i64 0, .int .u32 0]) ?_ 6 _ rfl; (with_reducible repeat (first | refine blk_drewN ?_ _ | refine blk_drew ?_ | refine blk_alloc ?_ _)); refine blk_put (cs := #[.int .i64 0, .int .i64 0, .string (⟨#[]⟩ : ByteArray), .int .i64 0, .int .i64 0, .int .i64 0, .int .i64 0, .string (⟨#[]⟩ : ByteArray), .int .i64 0, .int .u32 0]) ?_ 5 _ rfl; (with_reducible repeat (first | refine blk_drewN ?_ _ | refine blk_drew ?_ | refine blk_alloc ?_ _)); refine blk_put (cs := #[.int .i64 0, .int .i64 0, .string (⟨#[]⟩ : ByteArray), .int .i64 0, .int .i64 0, .int .i64 0, .int .i64 0, .string (⟨#[]⟩ : ByteArray), .int .i64 0, .int .u32 0]) ?_ 4 _ rfl; (with_reducible repeat (first | refine blk_drewN ?_ _ | refine blk_drew ?_ | refine blk_alloc ?_ _)); refine blk_put (cs := #[.int .i64 0, .int .i64 0, .string (⟨#[]⟩ : ByteArray), .int .i64 0, .int .i64 0, .int .i64 0, .int .i64 0, .string (⟨#[]⟩ : ByteArray), .int .i64 0, .int .u32 0]) ?_ 3 _ rfl; (with_reducible repeat (first | refine blk_drewN ?_ _ | refine blk_drew ?_ | refine blk_alloc ?_ _)); refine blk_put (cs := #[.int .i64 0, .int .i64 0, .string (⟨#[]⟩ : ByteArray), .int .i64 0, .int .i64 0, .int .i64 0, .int .i64 0, .string (⟨#[]⟩ : ByteArray), .int .i64 0, .int .u32 0]) ?_ 2 _ rfl; (with_reducible repeat (first | refine blk_drewN ?_ _ | refine blk_drew ?_ | refine blk_alloc ?_ _)); refine blk_put (cs := #[.int .i64 0, .int .i64 0, .string (⟨#[]⟩ : ByteArray), .int .i64 0, .int .i64 0, .int .i64 0, .int .i64 0, .string (⟨#[]⟩ : ByteArray), .int .i64 0, .int .u32 0]) ?_ 1 _ rfl; (with_reducible repeat (first | refine blk_drewN ?_ _ | refine blk_drew ?_ | refine blk_alloc ?_ _)); refine blk_put (cs := #[.int .i64 0, .int .i64 0, .string (⟨#[]⟩ : ByteArray), .int .i64 0, .int .i64 0, .int .i64 0, .int .i64 0, .string (⟨#[]⟩ : ByteArray), .int .i64 0, .int .u32 0]) ?_ 0 _ rfl; (with_reducible repeat (first | refine blk_drewN ?_ _ | refine blk_drew ?_ | refine blk_alloc ?_ _)); exact BK104.out) Tryd.underlying42 rfl (by kernel_rfl)) rfl ?_
    exact ⟨by first | rfl | (simp [errW_none, errW_some] <;> rfl) | (simp [*, errW_none, errW_some] <;> rfl), by repeat (first | (with_reducible first | exact HB.out | apply below_alloc | apply pw_below_drewN | apply below_drew1 | refine below_set ?_ GE104.out) | exact HB.out)⟩
  · rw [if_neg c2] at H
    have c2b0 : decide (a0 < 1) = false := decide_eq_false c2
    clear c2
    by_cases c5 : a0 > 25
    · rw [if_pos c5] at H
      have c5b0 : decide (25 < a0) = true := decide_eq_true c5
      clear c5
      simp only [Option.some.injEq, Prod.mk.injEq] at H
      obtain ⟨rfl, rfl, rfl, rfl, rfl, rfl, rfl, rfl, rfl, rfl⟩ := H
      go_enter Tryd.func27, Tryd.ntmps27
      go_wp2_with (first | ((with_reducible refine gate_dst (N := 2) rfl ?_); refine box_event ?hg (N := 2) ?hd (cs := #[.int .i64 0, .int .i64 0, .string (⟨#[]⟩ : ByteArray), .int .i64 0, .int .i64 0, .int .i64 0, .int .i64 0, .string (⟨#[]⟩ : ByteArray), .int .i64 0, .int .u32 0]) (t := 42) ?hr ?_; (case hd => rfl); (case hg => rfl); (case hr => first | (go_simp; done) | (go_simp; rfl)); intro gb104 hg w6 hbox hb; have n0_ := Aside0.mk (below_step (by repeat (first | (with_reducible first | exact HB.out | apply below_alloc | apply pw_below_drewN | apply below_drew1) | exact HB.out)) hb); have n1_ := Aside0.mk (hbox); have n2_ := Aside0.mk ((by rw [hg]; exact (below_size (by repeat (first | (with_reducible first | exact HB.out | apply below_alloc | apply pw_below_drewN | apply below_drew1) | exact HB.out))) : w.heap.size ≤ gb104)); have n3_ := Aside0.mk ((by rw [hg]; exact (below_size (by repeat (first | (with_reducible first | exact HB.out | apply below_alloc | apply pw_below_drewN | apply below_drew1) | exact HB.out))) : w.heap.size ≤ gb104)); clear HB; have HB := n0_; have BK104 := n1_; have GW104 := n2_; have GE104 := n3_; clear n0_ n1_ n2_ n3_; clear hb hbox hg; have hcz7_0 : w6.cell? ⟨gb104, 0, none⟩ = some (.int .i64 0) := (blk_cell BK104.out 0).trans rfl; have hcz7_1 : w6.cell? ⟨gb104, 1, none⟩ = some (.int .i64 0) := (blk_cell BK104.out 1).trans rfl; have hcz7_2 : w6.cell? ⟨gb104, 2, none⟩ = some (.string (⟨#[]⟩ : ByteArray)) := (blk_cell BK104.out 2).trans rfl; have hcz7_3 : w6.cell? ⟨gb104, 3, none⟩ = some (.int .i64 0) := (blk_cell BK104.out 3).trans rfl; have hcz7_4 : w6.cell? ⟨gb104, 4, none⟩ = some (.int .i64 0) := (blk_cell BK104.out 4).trans rfl; have hcz7_5 : w6.cell? ⟨gb104, 5, none⟩ = some (.int .i64 0) := (blk_cell BK104.out 5).trans rfl; have hcz7_6 : w6.cell? ⟨gb104, 6, none⟩ = some (.int .i64 0) := (blk_cell BK104.out 6).trans rfl; have hcz7_7 : w6.cell? ⟨gb104, 7, none⟩ = some (.string (⟨#[]⟩ : ByteArray)) := (blk_cell BK104.out 7).trans rfl; have hcz7_8 : w6.cell? ⟨gb104, 8, none⟩ = some (.int .i64 0) := (blk_cell BK104.out 8).trans rfl; have hcz7_9 : w6.cell? ⟨gb104, 9, none⟩ = some (.int .u32 0) := (blk_cell BK104.out 9).trans rfl; have hfz7_0 := blk_frozen BK104.out 0; have hfz7_1 := blk_frozen BK104.out 1; have hfz7_2 := blk_frozen BK104.out 2; have hfz7_3 := blk_frozen BK104.out 3; have hfz7_4 := blk_frozen BK104.out 4; have hfz7_5 := blk_frozen BK104.out 5; have hfz7_6 := blk_frozen BK104.out 6; have hfz7_7 := blk_frozen BK104.out 7; have hfz7_8 := blk_frozen BK104.out 8; have hfz7_9 := blk_frozen BK104.out 9))
      refine bodyPost_ret (results_cell_row rfl _ _ gb104 42 #[.int .i64 0, .int .i64 0, .string (⟨#[]⟩ : ByteArray), .int .i64 0, .int .i64 0, .int .i64 0, .int .i64 0, .string (⟨#[]⟩ : ByteArray), .int .i64 0, .int .u32 0] (0, 0) _ rfl (by (with_reducible repeat (first | refine blk_drewN ?_ _ | refine blk_drew ?_ | refine blk_alloc ?_ _)); refine blk_put (cs := #[.int .i64 0, .int .i64 0, .string (⟨#[]⟩ : ByteArray), .int .i64 0, .int .i64 0, .int .i64 0, .int .i64 0, .string (⟨#[]⟩ : ByteArray), .int .i64 0, .int .u32 0]) ?_ 9 _ rfl; (with_reducible repeat (first | refine blk_drewN ?_ _ | refine blk_drew ?_ | refine blk_alloc ?_ _)); refine blk_put (cs := #[.int .i64 0, .int .i64 0, .string (⟨#[]⟩ : ByteArray), .int .i64 0, .int .i64 0, .int .i64 0, .int .i64 0, .string (⟨#[]⟩ : ByteArray), .int .i64 0, .int .u32 0]) ?_ 8 _ rfl; (with_reducible repeat (first | refine blk_drewN ?_ _ | refine blk_drew ?_ | refine blk_alloc ?_ _)); refine blk_put (cs := #[.int .i64 0, .int .i64 0, .string (⟨#[]⟩ : ByteArray), .int .i64 0, .int .i64 0, .int .i64 0, .int .i64 0, .string (⟨#[]⟩ : ByteArray), .int .i64 0, .int .u32 0]) ?_ 7 _ rfl; (with_reducible repeat (first | refine blk_drewN ?_ _ | refine blk_drew ?_ | refine blk_alloc ?_ _)); refine blk_put (cs := #[.int .i64 0, .int .i64 0, .string (⟨#[]⟩ : ByteArray), .int .i64 0, .int .i64 0, .int .i64 0, .int .i64 0, .string (⟨#[]⟩ : ByteArray), .int .i64 0, .int .u32 0]) ?_ 6 _ rfl; (with_reducible repeat (first | refine blk_drewN ?_ _ | refine blk_drew ?_ | refine blk_alloc ?_ _)); refine blk_put (cs := #[.int .i64 0, .int .i64 0, .string (⟨#[]⟩ : ByteArray), .int .i64 0, .int .i64 0, .int .i64 0, .int .i64 0, .string (⟨#[]⟩ : ByteArray), .int .i64 0, .int .u32 0]) ?_ 5 _ rfl; (with_reducible repeat (first | refine blk_drewN ?_ _ | refine blk_drew ?_ | refine blk_alloc ?_ _)); refine blk_put (cs := #[.int .i64 0, .int .i64 0, .string (⟨#[]⟩ : ByteArray), .int .i64 0, .int .i64 0, .int .i64 0, .int .i64 0, .string (⟨#[]⟩ : ByteArray), .int .i64 0, .int .u32 0]) ?_ 4 _ rfl; (with_reducible repeat (first | refine blk_drewN ?_ _ | refine blk_drew ?_ | refine blk_alloc ?_ _)); refine blk_put (cs := #[.int .i64 0, .int .i64 0, .string (⟨#[]⟩ : ByteArray), .int .i64 0, .int .i64 0, .int .i64 0, .int .i64 0, .string (⟨#[]⟩ : ByteArray), .int .i64 0, .int .u32 0]) ?_ 3 _ rfl; (with_reducible repeat (first | refine blk_drewN ?_ _ | refine blk_drew ?_ | refine blk_alloc ?_ _)); refine blk_put (cs := #[.int .i64 0, .int .i64 0, .string (⟨#[]⟩ : ByteArray), .int .i64 0, .int .i64 0, .int .i64 0, .int .i64 0, .string (⟨#[]⟩ : ByteArray), .int .i64 0, .int .u32 0]) ?_ 2 _ rfl; (with_reducible repeat (first | refine blk_drewN ?_ _ | refine blk_drew ?_ | refine blk_alloc ?_ _)); refine blk_put (cs := #[.int .i64 0, .int .i64 0, .string (⟨#[]⟩ : ByteArray), .int .i64 0, .int .i64 0, .int .i64 0, .int .i64 0, .string (⟨#[]⟩ : ByteArray), .int .i64 0, .int .u32 0]) ?_ 1 _ rfl; (with_reducible repeat (first | refine blk_drewN ?_ _ | refine blk_drew ?_ | refine blk_alloc ?_ _)); refine blk_put (cs := #[.int .i64 0, .int .i64 0, .string (⟨#[]⟩ : ByteArray), .int .i64 0, .int .i64 0, .int .i64 0, .int .i64 0, .string (⟨#[]⟩ : ByteArray), .int .i64 0, .int .u32 0]) ?_ 0 _ rfl; (with_reducible repeat (first | refine blk_drewN ?_ _ | refine blk_drew ?_ | refine blk_alloc ?_ _)); exact BK104.out) Tryd.underlying42 rfl (by kernel_rfl)) rfl ?_
      exact ⟨by first | rfl | (simp [errW_none, errW_some] <;> rfl) | (simp [*, errW_none, errW_some] <;> rfl), by repeat (first | (with_reducible first | exact HB.out | apply below_alloc | apply pw_below_drewN | apply below_drew1 | refine below_set ?_ GE104.out) | exact HB.out)⟩
    · rw [if_neg c5] at H
      have c5b0 : decide (25 < a0) = false := decide_eq_false c5
      clear c5
      replace H := Option.bind_eq_some_iff.mp H
      obtain ⟨t105, A80, H⟩ := H
      replace H : (if 0 ≤ (wrap64 (a0 - 1)) then (if (wrap64 (a0 - 1)) < (t105.length : Int) then (some ((rd_T42 t105 (wrap64 (a0 - 1))).f0, (rd_T42 t105 (wrap64 (a0 - 1))).f1, (rd_T42 t105 (wrap64 (a0 - 1))).f2, (rd_T42 t105 (wrap64 (a0 - 1))).f3, (rd_T42 t105 (wrap64 (a0 - 1))).f4, (rd_T42 t105 (wrap64 (a0 - 1))).f5, (rd_T42 t105 (wrap64 (a0 - 1))).f6, (rd_T42 t105 (wrap64 (a0 - 1))).f7, (rd_T42 t105 (wrap64 (a0 - 1))).f8, (rd_T42 t105 (wrap64 (a0 - 1))).f9)) else (none)) else (none)) = some (r1, r2, r3, r4, r5, r6, r7, r8, r9, r10) := H
      have A8 := Aside0.mk A80
      clear A80
      obtain ⟨ji9, hji9⟩ : ∃ j_ : Int, (wrap64 (a0 - 1)) = j_ := ⟨_, rfl⟩
      replace H : (if 0 ≤ (ji9) then (if (ji9) < (t105.length : Int) then (some ((rd_T42 t105 (ji9)).f0, (rd_T42 t105 (ji9)).f1, (rd_T42 t105 (ji9)).f2, (rd_T42 t105 (ji9)).f3, (rd_T42 t105 (ji9)).f4, (rd_T42 t105 (ji9)).f5, (rd_T42 t105 (ji9)).f6, (rd_T42 t105 (ji9)).f7, (rd_T42 t105 (ji9)).f8, (rd_T42 t105 (ji9)).f9)) else (none)) else (none)) = some (r1, r2, r3, r4, r5, r6, r7, r8, r9, r10) := by first | (rw [hji9] at H; exact H) | (simp only [hji9] at H ⊢; exact H)
      (try rw [hji9] at A8)
      have hji9w : (IntKind.i64.wrap (a0 - 1)) = ji9 := (i64_w _).trans hji9
      by_cases c10 : 0 ≤ (ji9)
      · rw [if_pos c10] at H
        have c10b0 : decide (0 ≤ (ji9)) = true := decide_eq_true c10
        clear c10
        by_cases c11 : (ji9) < (t105.length : Int)
        · rw [if_pos c11] at H
          have c11b0 : decide ((ji9) < (t105.length : Int)) = true := decide_eq_true c11
          clear c11
          simp only [Option.some.injEq, Prod.mk.injEq] at H
          obtain ⟨rfl, rfl, rfl, rfl, rfl, rfl, rfl, rfl, rfl, rfl⟩ := H
          go_enter Tryd.func27, Tryd.ntmps27
          go_wp2_with (first | ((with_reducible refine gate_dst (N := 2) rfl ?_); refine box_event ?hg (N := 2) ?hd (cs := #[.int .i64 0, .int .i64 0, .string (⟨#[]⟩ : ByteArray), .int .i64 0, .int .i64 0, .int .i64 0, .int .i64 0, .string (⟨#[]⟩ : ByteArray), .int .i64 0, .int .u32 0]) (t := 42) ?hr ?_; (case hd => rfl); (case hg => rfl); (case hr => first | (go_simp; done) | (go_simp; rfl)); intro gb104 hg w12 hbox hb; have n0_ := Aside0.mk (below_step (by repeat (first | (with_reducible first | exact HB.out | apply below_alloc | apply pw_below_drewN | apply below_drew1) | exact HB.out)) hb); have n1_ := Aside0.mk (hbox); have n2_ := Aside0.mk ((by rw [hg]; exact (below_size (by repeat (first | (with_reducible first | exact HB.out | apply below_alloc | apply pw_below_drewN | apply below_drew1) | exact HB.out))) : w.heap.size ≤ gb104)); have n3_ := Aside0.mk ((by rw [hg]; exact (below_size (by repeat (first | (with_reducible first | exact HB.out | apply below_alloc | apply pw_below_drewN | apply below_drew1) | exact HB.out))) : w.heap.size ≤ gb104)); clear HB; have HB := n0_; have BK104 := n1_; have GW104 := n2_; have GE104 := n3_; clear n0_ n1_ n2_ n3_; clear hb hbox hg) | ((with_reducible refine gate_callee (f := 28) rfl ?_); refine goesL_ (some 10) rfl rfl Tryd.func28 (by kernel_rfl) rfl #[] rfl (by (try simp only [List.map_toArray, List.map_cons, List.map_nil]); first | done | rfl | (simp only [List.length_drop, List.length_take]; rfl)) ?_; (with_reducible refine (pyxref13_Table.calls  t105 _ A8.out).mono ?_); rintro e w13 ⟨v106, rfl, ho0, hb⟩; refine ⟨_, rfl, ?_⟩; have n0_ := Aside0.mk (Kd.R_lower (Kd.R_newB ho0 (g := gb104) (o := .cells #[.int .i64 0, .int .i64 0, .string (⟨#[]⟩ : ByteArray), .int .i64 0, .int .i64 0, .int .i64 0, .int .i64 0, .string (⟨#[]⟩ : ByteArray), .int .i64 0, .int .u32 0] 42 (0, 0)) (by (with_reducible repeat (first | refine blk_drewN ?_ _ | refine blk_drew ?_ | refine blk_alloc ?_ _)); exact BK104.out)) (below_size (by repeat (first | (with_reducible first | exact HB.out | apply below_alloc | apply pw_below_drewN | apply below_drew1 | refine below_set ?_ GE104.out) | exact HB.out)))); have n1_ := Aside0.mk (blk_below (g := gb104) (o := .cells #[.int .i64 0, .int .i64 0, .string (⟨#[]⟩ : ByteArray), .int .i64 0, .int .i64 0, .int .i64 0, .int .i64 0, .string (⟨#[]⟩ : ByteArray), .int .i64 0, .int .u32 0] 42 (0, 0)) (by (with_reducible repeat (first | refine blk_drewN ?_ _ | refine blk_drew ?_ | refine blk_alloc ?_ _)); exact BK104.out) hb); have n2_ := Aside0.mk (below_step (by repeat (first | (with_reducible first | exact HB.out | apply below_alloc | apply pw_below_drewN | apply below_drew1 | refine below_set ?_ GE104.out) | exact HB.out)) hb); clear BK104; clear HB; have HO107 := n0_; have BK104 := n1_; have HB := n2_; clear n0_ n1_ n2_; (try clear hb); (try clear hb2); (try clear hk); (try clear hi); (try clear ho0); obtain ⟨Ao14, co14, eo14⟩ := Kd.R_slice HO107.out; subst eo14; have p108 : 0 ≤ ((ji9) : Int) := of_decide_eq_true (by first | (with_reducible assumption) | assumption); have q108 : (ji9) < (t105.length : Int) := of_decide_eq_true (by first | (with_reducible assumption) | assumption); obtain ⟨ad108, e108, hx108_0, hx108_1, hx108_2, hx108_3, hx108_4, hx108_5, hx108_6, hx108_7, hx108_8, hx108_9⟩ := at_T42 (Kd.R_reads' HO107.out).2.2 (ji9) p108 q108; cases e108; replace p108 := eq_true p108; replace q108 := eq_true q108; have hcz15_0 : w13.cell? ⟨gb104, 0, none⟩ = some (.int .i64 0) := (blk_cell BK104.out 0).trans rfl; have hcz15_1 : w13.cell? ⟨gb104, 1, none⟩ = some (.int .i64 0) := (blk_cell BK104.out 1).trans rfl; have hcz15_2 : w13.cell? ⟨gb104, 2, none⟩ = some (.string (⟨#[]⟩ : ByteArray)) := (blk_cell BK104.out 2).trans rfl; have hcz15_3 : w13.cell? ⟨gb104, 3, none⟩ = some (.int .i64 0) := (blk_cell BK104.out 3).trans rfl; have hcz15_4 : w13.cell? ⟨gb104, 4, none⟩ = some (.int .i64 0) := (blk_cell BK104.out 4).trans rfl; have hcz15_5 : w13.cell? ⟨gb104, 5, none⟩ = some (.int .i64 0) := (blk_cell BK104.out 5).trans rfl; have hcz15_6 : w13.cell? ⟨gb104, 6, none⟩ = some (.int .i64 0) := (blk_cell BK104.out 6).trans rfl; have hcz15_7 : w13.cell? ⟨gb104, 7, none⟩ = some (.string (⟨#[]⟩ : ByteArray)) := (blk_cell BK104.out 7).trans rfl; have hcz15_8 : w13.cell? ⟨gb104, 8, none⟩ = some (.int .i64 0) := (blk_cell BK104.out 8).trans rfl; have hcz15_9 : w13.cell? ⟨gb104, 9, none⟩ = some (.int .u32 0) := (blk_cell BK104.out 9).trans rfl; have hfz15_0 := blk_frozen BK104.out 0; have hfz15_1 := blk_frozen BK104.out 1; have hfz15_2 := blk_frozen BK104.out 2; have hfz15_3 := blk_frozen BK104.out 3; have hfz15_4 := blk_frozen BK104.out 4; have hfz15_5 := blk_frozen BK104.out 5; have hfz15_6 := blk_frozen BK104.out 6; have hfz15_7 := blk_frozen BK104.out 7; have hfz15_8 := blk_frozen BK104.out 8; have hfz15_9 := blk_frozen BK104.out 9))
          refine bodyPost_ret (results_cell_row rfl _ _ gb104 42 #[.int .i64 ((rd_T42 t105 (ji9)).f0), .int .i64 ((rd_T42 t105 (ji9)).f1), .string ((rd_T42 t105 (ji9)).f2), .int .i64 ((rd_T42 t105 (ji9)).f3), .int .i64 ((rd_T42 t105 (ji9)).f4), .int .i64 ((rd_T42 t105 (ji9)).f5), .int .i64 ((rd_T42 t105 (ji9)).f6), .string ((rd_T42 t105 (ji9)).f7), .int .i64 ((rd_T42 t105 (ji9)).f8), .int .u32 ((rd_T42 t105 (ji9)).f9)] (0, 0) _ rfl (by (with_reducible repeat (first | refine blk_drewN ?_ _ | refine blk_drew ?_ | refine blk_alloc ?_ _)); refine blk_put (cs := #[.int .i64 ((rd_T42 t105 (ji9)).f0), .int .i64 ((rd_T42 t105 (ji9)).f1), .string ((rd_T42 t105 (ji9)).f2), .int .i64 ((rd_T42 t105 (ji9)).f3), .int .i64 ((rd_T42 t105 (ji9)).f4), .int .i64 ((rd_T42 t105 (ji9)).f5), .int .i64 ((rd_T42 t105 (ji9)).f6), .string ((rd_T42 t105 (ji9)).f7), .int .i64 ((rd_T42 t105 (ji9)).f8), .int .u32 0]) ?_ 9 _ rfl; (with_reducible repeat (first | refine blk_drewN ?_ _ | refine blk_drew ?_ | refine blk_alloc ?_ _)); refine blk_put (cs := #[.int .i64 ((rd_T42 t105 (ji9)).f0), .int .i64 ((rd_T42 t105 (ji9)).f1), .string ((rd_T42 t105 (ji9)).f2), .int .i64 ((rd_T42 t105 (ji9)).f3), .int .i64 ((rd_T42 t105 (ji9)).f4), .int .i64 ((rd_T42 t105 (ji9)).f5), .int .i64 ((rd_T42 t105 (ji9)).f6), .string ((rd_T42 t105 (ji9)).f7), .int .i64 0, .int .u32 0]) ?_ 8 _ rfl; (with_reducible repeat (first | refine blk_drewN ?_ _ | refine blk_drew ?_ | refine blk_alloc ?_ _)); refine blk_put (cs := #[.int .i64 ((rd_T42 t105 (ji9)).f0), .int .i64 ((rd_T42 t105 (ji9)).f1), .string ((rd_T42 t105 (ji9)).f2), .int .i64 ((rd_T42 t105 (ji9)).f3), .int .i64 ((rd_T42 t105 (ji9)).f4), .int .i64 ((rd_T42 t105 (ji9)).f5), .int .i64 ((rd_T42 t105 (ji9)).f6), .string (⟨#[]⟩ : ByteArray), .int .i64 0, .int .u32 0]) ?_ 7 _ rfl; (with_reducible repeat (first | refine blk_drewN ?_ _ | refine blk_drew ?_ | refine blk_alloc ?_ _)); refine blk_put (cs := #[.int .i64 ((rd_T42 t105 (ji9)).f0), .int .i64 ((rd_T42 t105 (ji9)).f1), .string ((rd_T42 t105 (ji9)).f2), .int .i64 ((rd_T42 t105 (ji9)).f3), .int .i64 ((rd_T42 t105 (ji9)).f4), .int .i64 ((rd_T42 t105 (ji9)).f5), .int .i64 0, .string (⟨#[]⟩ : ByteArray), .int .i64 0, .int .u32 0]) ?_ 6 _ rfl; (with_reducible repeat (first | refine blk_drewN ?_ _ | refine blk_drew ?_ | refine blk_alloc ?_ _)); refine blk_put (cs := #[.int .i64 ((rd_T42 t105 (ji9)).f0), .int .i64 ((rd_T42 t105 (ji9)).f1), .string ((rd_T42 t105 (ji9)).f2), .int .i64 ((rd_T42 t105 (ji9)).f3), .int .i64 ((rd_T42 t105 (ji9)).f4), .int .i64 0, .int .i64 0, .string (⟨#[]⟩ : ByteArray), .int .i64 0, .int .u32 0]) ?_ 5 _ rfl; (with_reducible repeat (first | refine blk_drewN ?_ _ | refine blk_drew ?_ | refine blk_alloc ?_ _)); refine blk_put (cs := #[.int .i64 ((rd_T42 t105 (ji9)).f0), .int .i64 ((rd_T42 t105 (ji9)).f1), .string ((rd_T42 t105 (ji9)).f2), .int .i64 ((rd_T42 t105 (ji9)).f3), .int .i64 0, .int .i64 0, .int .i64 0, .string (⟨#[]⟩ : ByteArray), .int .i64 0, .int .u32 0]) ?_ 4 _ rfl; (with_reducible repeat (first | refine blk_drewN ?_ _ | refine blk_drew ?_ | refine blk_alloc ?_ _)); refine blk_put (cs := #[.int .i64 ((rd_T42 t105 (ji9)).f0), .int .i64 ((rd_T42 t105 (ji9)).f1), .string ((rd_T42 t105 (ji9)).f2), .int .i64 0, .int .i64 0, .int .i64 0, .int .i64 0, .string (⟨#[]⟩ : ByteArray), .int .i64 0, .int .u32 0]) ?_ 3 _ rfl; (with_reducible repeat (first | refine blk_drewN ?_ _ | refine blk_drew ?_ | refine blk_alloc ?_ _)); refine blk_put (cs := #[.int .i64 ((rd_T42 t105 (ji9)).f0), .int .i64 ((rd_T42 t105 (ji9)).f1), .string (⟨#[]⟩ : ByteArray), .int .i64 0, .int .i64 0, .int .i64 0, .int .i64 0, .string (⟨#[]⟩ : ByteArray), .int .i64 0, .int .u32 0]) ?_ 2 _ rfl; (with_reducible repeat (first | refine blk_drewN ?_ _ | refine blk_drew ?_ | refine blk_alloc ?_ _)); refine blk_put (cs := #[.int .i64 ((rd_T42 t105 (ji9)).f0), .int .i64 0, .string (⟨#[]⟩ : ByteArray), .int .i64 0, .int .i64 0, .int .i64 0, .int .i64 0, .string (⟨#[]⟩ : ByteArray), .int .i64 0, .int .u32 0]) ?_ 1 _ rfl; (with_reducible repeat (first | refine blk_drewN ?_ _ | refine blk_drew ?_ | refine blk_alloc ?_ _)); refine blk_put (cs := #[.int .i64 0, .int .i64 0, .string (⟨#[]⟩ : ByteArray), .int .i64 0, .int .i64 0, .int .i64 0, .int .i64 0, .string (⟨#[]⟩ : ByteArray), .int .i64 0, .int .u32 0]) ?_ 0 _ rfl; (with_reducible repeat (first | refine blk_drewN ?_ _ | refine blk_drew ?_ | refine blk_alloc ?_ _)); exact BK104.out) Tryd.underlying42 rfl (by kernel_rfl)) rfl ?_
          exact ⟨by first | rfl | (simp [errW_none, errW_some] <;> rfl) | (simp only [← hji9]; first | rfl | (simp [errW_none, errW_some] <;> rfl)) | (simp [*, errW_none, errW_some] <;> rfl), by repeat (first | (with_reducible first | exact HB.out | apply below_alloc | apply pw_below_drewN | apply below_drew1 | refine below_set ?_ GE104.out) | exact HB.out)⟩
        · rw [if_neg c11] at H
          exact absurd H (by simp)
      · rw [if_neg c10] at H
        exact absurd H (by simp)

end Go.Proofs.YtjoncjnmhhimhaaDoor.PT13r
end

section
/- params.list: the numbers of the algorithms whose row a function holds for. The function is any closure with a contract. -/
namespace Go.Proofs.YtjoncjnmhhimhaaDoor.Hand
set_option linter.unusedVariables false
set_option linter.unusedSimpArgs false
open Go.RowKit Go.Proofs.YtjoncjnmhhimhaaDoorW.PrintWords Go.Proofs.YtjoncjnmhhimhaaDoorW.PrintLast Go.Proofs.YtjoncjnmhhimhaaDoorW.PrintMore

/-- The numbers up to k that p holds for. -/
def lst (p : Int → Bool) (k : Nat) : List Int := ((List.range k).map fun (i : Nat) => (i : Int) + 1).filter p
theorem lst_succ (p : Int → Bool) (k : Nat) : lst p (k + 1) = lst p k ++ (if p ((k : Int) + 1) = true then [(k : Int) + 1] else []) := by
  unfold lst
  rw [List.range_succ, List.map_append, List.filter_append]
  congr 1
  simp only [List.map_cons, List.map_nil, List.filter_cons, List.filter_nil]
theorem lst_len (p : Int → Bool) (k : Nat) : (lst p k).length ≤ k := by
  unfold lst
  refine Nat.le_trans (List.length_filter_le _ _) ?_
  simp
theorem get_some (k : Nat) (hk : k < 25) : ∃ r1 r2 r3 r4 r5 r6 r7 r8 r9 r10, params_Get.f ((k : Int) + 1) = some (r1, r2, r3, r4, r5, r6, r7, r8, r9, r10, true) := by
  have : ∀ m : Nat, m < 25 → ∃ r1 r2 r3 r4 r5 r6 r7 r8 r9 r10, parTab[m]? = some (r1, r2, r3, r4, r5, r6, r7, r8, r9, r10, true)
    | 0, _ => ⟨_, _, _, _, _, _, _, _, _, _, rfl⟩
    | 1, _ => ⟨_, _, _, _, _, _, _, _, _, _, rfl⟩
    | 2, _ => ⟨_, _, _, _, _, _, _, _, _, _, rfl⟩
    | 3, _ => ⟨_, _, _, _, _, _, _, _, _, _, rfl⟩
    | 4, _ => ⟨_, _, _, _, _, _, _, _, _, _, rfl⟩
    | 5, _ => ⟨_, _, _, _, _, _, _, _, _, _, rfl⟩
    | 6, _ => ⟨_, _, _, _, _, _, _, _, _, _, rfl⟩
    | 7, _ => ⟨_, _, _, _, _, _, _, _, _, _, rfl⟩
    | 8, _ => ⟨_, _, _, _, _, _, _, _, _, _, rfl⟩
    | 9, _ => ⟨_, _, _, _, _, _, _, _, _, _, rfl⟩
    | 10, _ => ⟨_, _, _, _, _, _, _, _, _, _, rfl⟩
    | 11, _ => ⟨_, _, _, _, _, _, _, _, _, _, rfl⟩
    | 12, _ => ⟨_, _, _, _, _, _, _, _, _, _, rfl⟩
    | 13, _ => ⟨_, _, _, _, _, _, _, _, _, _, rfl⟩
    | 14, _ => ⟨_, _, _, _, _, _, _, _, _, _, rfl⟩
    | 15, _ => ⟨_, _, _, _, _, _, _, _, _, _, rfl⟩
    | 16, _ => ⟨_, _, _, _, _, _, _, _, _, _, rfl⟩
    | 17, _ => ⟨_, _, _, _, _, _, _, _, _, _, rfl⟩
    | 18, _ => ⟨_, _, _, _, _, _, _, _, _, _, rfl⟩
    | 19, _ => ⟨_, _, _, _, _, _, _, _, _, _, rfl⟩
    | 20, _ => ⟨_, _, _, _, _, _, _, _, _, _, rfl⟩
    | 21, _ => ⟨_, _, _, _, _, _, _, _, _, _, rfl⟩
    | 22, _ => ⟨_, _, _, _, _, _, _, _, _, _, rfl⟩
    | 23, _ => ⟨_, _, _, _, _, _, _, _, _, _, rfl⟩
    | 24, _ => ⟨_, _, _, _, _, _, _, _, _, _, rfl⟩
    | m + 25, h => absurd h (by omega)
  unfold params_Get.f
  rw [if_pos (by omega), show ((k : Int) + 1 - 1).toNat = k by omega]
  exact this k hk

theorem info_i64 : (Tryd.prog.info? 3).map (fun i => (i.zero, i.size, i.bytes)) = some (some (.int .i64 0), 1, 8) := by kernel_rfl
/-- What a closure over a row says, and what it needs of the world. -/
structure Holds (f : FuncId) (caps : Array Value) (p : Int → Bool) (Inv : World → Prop) : Prop where
  enters : ∀ args W, (callFunc f args).run Tryd.prog W = .ok (.enter f args) W
  keeps : ∀ W W', Inv W → Below W.heap.size W W' → Inv W'
  says : ∀ (a : Int) r1 r2 r3 r4 r5 r6 r7 r8 r9 r10 A7 c7 (W : World), params_Get.f a = some (r1, r2, r3, r4, r5, r6, r7, r8, r9, r10, true) → Kd.C (Kd.int .u32) W A7 r8.length r8 → r8.length ≤ c7 → Inv W →
    Calls Tryd.prog f (#[.agg #[.int .i64 r1, .int .i64 r2, .string r3, .int .i64 r4, .int .i64 r5, .int .i64 r6, .int .i64 r7, .slice A7 r8.length c7, .int .i64 r9, .int .u32 r10]] ++ caps) W fun e W' => e = .returned (.bool (p a)) ∧ Below W.heap.size W W'

set_option maxHeartbeats 4000000 in
set_option maxRecDepth 100000 in
theorem list_any (f : FuncId) (caps : Array Value) (p : Int → Bool) (Inv : World → Prop) (HF : Holds f caps p Inv) (w : World) (HLd : LaidOk w) (hInv : Inv w) :
    Calls Tryd.prog 50 #[.func (.func f) #[] caps] w fun e w' => ∃ v0_ : Value, e = .returned v0_ ∧ Kd.R (Kd.int .i64) 3 w' w.heap.size (fun _ => True) v0_ (lst p 25) ∧ Below w.heap.size w w' := by
  have he := HF.enters
  go_enter Tryd.func50, Tryd.ntmps50
  go_wp2
  go_loopw [3, 4] (fun vo va wr => ∃ k : Nat, k ≤ 25 ∧ va = .int .i64 ((k : Int) + 1) ∧ Hid (Kd.R (Kd.int .i64) 3 wr w.heap.size (fun _ => True) vo (lst p k)) ∧ Hid (Below w.heap.size w wr)) (fun _ va _ => 26 - (intOf va).toNat)
  case atStart => exact ⟨0, by omega, rfl, Lib.hid (Kd.R_nil _ _ _ _ _), Lib.hid (Below.refl _ _)⟩
  case round =>
    obtain ⟨k, hk, rfl, HO, HB⟩ := hrel
    by_cases hlt : k < 25
    · obtain ⟨r1, r2, r3, r4, r5, r6, r7, r8, r9, r10, hrow⟩ := get_some k hlt
      have g1 : decide ((k : Int) + 1 ≤ 25) = true := decide_eq_true (by omega)
      obtain ⟨b, hp⟩ : ∃ b, b = p ((k : Int) + 1) := ⟨_, rfl⟩
      have HR := Lib.hid hrow
      have HP := Lib.hid hp
      have HD := Lib.hid HLd
      have HI := Lib.hid hInv
      have HFF := Lib.hid HF
      obtain ⟨Ao, co, eo⟩ := Kd.R_slice HO.out
      subst eo
      have hL : Hid ((lst p k).length ≤ 25) := Lib.hid (Nat.le_trans (lst_len p k) hk)
      have hw : wrap64 ((k : Int) + 1 + 1) = ((k + 1 : Nat) : Int) + 1 := by rw [i64_in _ (by omega) (by omega)]; omega
      clear hrow hp HLd hInv HF
      cases b with
      | true =>
        go_wp2_with fail
        refine (params_Get.calls ((k : Int) + 1) r1 r2 r3 r4 r5 r6 r7 r8 r9 r10 true _ (HD.out.below HB.out) HR.out).mono ?_
        rintro e w2 ⟨v7, rfl, hR7, hB2⟩
        have HB2 := Lib.hid (HB.out.trans (hB2.mono HB.out.size))
        obtain ⟨A7, c7, rfl⟩ := Kd.R_slice hR7
        have HR7 := Lib.hid hR7
        have HO2 := Lib.hid (Kd.R_below HO.out hB2)
        clear hR7 hB2
        go_wp2_with fail
        obtain ⟨q1, q2, q3⟩ := Kd.R_reads' HR7.out
        refine (HFF.out.says ((k : Int) + 1) r1 r2 r3 r4 r5 r6 r7 r8 r9 r10 A7 c7 _ HR.out (Kd.C_alloc q3 _) (by first | exact q1 | exact q2) (HFF.out.keeps _ _ HI.out (below_alloc HB2.out _))).mono ?_
        rintro e w3 ⟨rfl, hB3⟩
        rw [← HP.out]
        have HB3 := Lib.hid ((below_alloc HB2.out _).trans (hB3.mono (below_alloc HB2.out _).size))
        have HO3 := Lib.hid (Kd.R_below (Kd.R_alloc HO2.out _) hB3)
        clear hB3 q1 q2 q3
        go_wp2_with (at_builtin; refine Kd.R_append (Kd.int .i64) (w0 := w) w.heap.size rfl (.tmp 19) (.tmp 21) 45 3 (.int .i64 0) 8 rfl Tryd.underlying45 info_i64 rfl (by decide) (by omega) (.slice Ao (lst p k).length co) (lst p k) ((k : Int) + 1) [.int .i64 ((k : Int) + 1)] (fun _ => True) (fun _ => False) rfl rfl ?aP (fun _ hk => hk.elim) ?aF ?aO ?aB ?aS ?aL ?_; (case aP => exact rfl); (case aB => exact (by repeat (first | exact HB3.out | apply below_alloc | apply pw_below_drewN | apply below_drew1))); (case aF => exact (fun _ _ => trivial)); (case aO => exact (by (with_reducible repeat (first | apply Kd.R_alloc | apply Kd.R_drewN | apply Kd.R_drew)); exact HO3.out)); (case aS => exact (below_size (by repeat (first | exact HB3.out | apply below_alloc | apply pw_below_drewN | apply below_drew1)))); (case aL => have := hL.out; omega); intro v4 w4 ho hb hg hat; have HO4 := Lib.hid ho; have HB4 := Lib.hid hb; clear ho hb hg hat)
        go_roundw
        case rel =>
          refine ⟨k + 1, by omega, by first | rfl | go_num | (rw [hw]), Lib.hid ?_, Lib.hid HB4.out⟩
          rw [lst_succ, ← HP.out, if_pos rfl]
          exact HO4.out
        case measure => simp [intOf]; omega
      | false =>
        go_wp2_with fail
        refine (params_Get.calls ((k : Int) + 1) r1 r2 r3 r4 r5 r6 r7 r8 r9 r10 true _ (HD.out.below HB.out) HR.out).mono ?_
        rintro e w2 ⟨v7, rfl, hR7, hB2⟩
        have HB2 := Lib.hid (HB.out.trans (hB2.mono HB.out.size))
        obtain ⟨A7, c7, rfl⟩ := Kd.R_slice hR7
        have HR7 := Lib.hid hR7
        have HO2 := Lib.hid (Kd.R_below HO.out hB2)
        clear hR7 hB2
        go_wp2_with fail
        obtain ⟨q1, q2, q3⟩ := Kd.R_reads' HR7.out
        refine (HFF.out.says ((k : Int) + 1) r1 r2 r3 r4 r5 r6 r7 r8 r9 r10 A7 c7 _ HR.out (Kd.C_alloc q3 _) (by first | exact q1 | exact q2) (HFF.out.keeps _ _ HI.out (below_alloc HB2.out _))).mono ?_
        rintro e w3 ⟨rfl, hB3⟩
        rw [← HP.out]
        have HB3 := Lib.hid ((below_alloc HB2.out _).trans (hB3.mono (below_alloc HB2.out _).size))
        have HO3 := Lib.hid (Kd.R_below (Kd.R_alloc HO2.out _) hB3)
        clear hB3 q1 q2 q3
        go_wp2
        go_roundw
        case rel =>
          refine ⟨k + 1, by omega, by first | rfl | go_num | (rw [hw]), Lib.hid ?_, Lib.hid HB3.out⟩
          rw [lst_succ, ← HP.out, if_neg (by decide), List.append_nil]
          exact HO3.out
        case measure => simp [intOf]; omega
    · have hk2 : k = 25 := by omega
      subst hk2
      have h := HO.out
      obtain ⟨Ao, co, rfl⟩ := Kd.R_slice h
      go_wp2
      go_ret
      exact ⟨_, rfl, h, HB.out⟩
end Go.Proofs.YtjoncjnmhhimhaaDoor.Hand
end

section
/- params.one: the row of the first number that a closure holds for. -/
namespace Go.Proofs.YtjoncjnmhhimhaaDoor.Hand
set_option linter.unusedVariables false
set_option linter.unusedSimpArgs false
open Go.RowKit Go.Proofs.YtjoncjnmhhimhaaDoorW.PrintWords Go.Proofs.YtjoncjnmhhimhaaDoorW.PrintLast Go.Proofs.YtjoncjnmhhimhaaDoorW.PrintMore

def oneF (p : Int → Bool) : Option (Int × Int × ByteArray × Int × Int × Int × Int × List Int × Int × Int × Bool) :=
  match lst p 25 with
  | [] => some parNone
  | a :: _ => params_Get.f a

set_option maxHeartbeats 4000000 in
set_option maxRecDepth 100000 in
theorem one_any (f : FuncId) (caps : Array Value) (p : Int → Bool) (Inv : World → Prop) (HF : Holds f caps p Inv) (r1 : Int) (r2 : Int) (r3 : ByteArray) (r4 : Int) (r5 : Int) (r6 : Int) (r7 : Int) (r8 : List Int) (r9 : Int) (r10 : Int) (r11 : Bool) (w : World) (HLd : LaidOk w) (hInv : Inv w) (h : oneF p = some (r1, r2, r3, r4, r5, r6, r7, r8, r9, r10, r11)) :
    Calls Tryd.prog 53 #[.func (.func f) #[] caps] w fun e w' => ∃ v7_ : Value, e = .returned (.tuple #[.agg #[.int .i64 r1, .int .i64 r2, .string r3, .int .i64 r4, .int .i64 r5, .int .i64 r6, .int .i64 r7, v7_, .int .i64 r9, .int .u32 r10], .bool r11]) ∧ Kd.R (Kd.int .u32) 27 w' w.heap.size (fun _ => True) v7_ r8 ∧ Below w.heap.size w w' := by
  have hlist := fun W (hW : LaidOk W) (hI : Inv W) => list_any f caps p Inv HF W hW hI
  unfold oneF at h
  generalize lst p 25 = L at h hlist
  have HL := Lib.hid hlist
  have HD := Lib.hid HLd
  have HI := Lib.hid hInv
  have HFF := Lib.hid HF
  have HH := Lib.hid h
  clear hlist HLd hInv HF h
  cases L with
  | nil =>
    simp only [Option.some.injEq, parNone, Prod.mk.injEq] at HH
    obtain ⟨rfl, rfl, rfl, rfl, rfl, rfl, rfl, rfl, rfl, rfl, rfl⟩ := HH.out
    go_enter Tryd.func53, Tryd.ntmps53
    go_wp2_with fail
    have hbox0 : (w.alloc (.cells #[.int .i64 0, .int .i64 0, .string (⟨#[]⟩ : ByteArray), .int .i64 0, .int .i64 0, .int .i64 0, .int .i64 0, .slice none 0 0, .int .i64 0, .int .u32 0] 37)).heap[w.heap.size]? = some (.cells #[.int .i64 0, .int .i64 0, .string (⟨#[]⟩ : ByteArray), .int .i64 0, .int .i64 0, .int .i64 0, .int .i64 0, .slice none 0 0, .int .i64 0, .int .u32 0] 37 (0, 0)) := blk_new w _
    have HB0 : Below w.heap.size w (w.alloc (.cells #[.int .i64 0, .int .i64 0, .string (⟨#[]⟩ : ByteArray), .int .i64 0, .int .i64 0, .int .i64 0, .int .i64 0, .slice none 0 0, .int .i64 0, .int .u32 0] 37)) := below_alloc (Below.refl _ _) _
    generalize w.alloc (.cells #[.int .i64 0, .int .i64 0, .string (⟨#[]⟩ : ByteArray), .int .i64 0, .int .i64 0, .int .i64 0, .int .i64 0, .slice none 0 0, .int .i64 0, .int .u32 0] 37) = W0 at *
    refine (HL.out W0 (HD.out.below HB0) (HFF.out.keeps _ _ HI.out HB0)).mono ?_
    rintro e w2 ⟨v0, rfl, hR2, hB2⟩
    have HB2 : Below w.heap.size w w2 := HB0.trans (hB2.mono HB0.size)
    have bx2 := blk_below hbox0 hB2
    obtain ⟨Al, cl, el⟩ := Kd.R_slice hR2
    subst el
    have hc0 : w2.cell? ⟨w.heap.size, 0, none⟩ = some (.int .i64 0) := (blk_cell bx2 0).trans rfl
    have hc1 : w2.cell? ⟨w.heap.size, 1, none⟩ = some (.int .i64 0) := (blk_cell bx2 1).trans rfl
    have hc2 : w2.cell? ⟨w.heap.size, 2, none⟩ = some (.string (⟨#[]⟩ : ByteArray)) := (blk_cell bx2 2).trans rfl
    have hc3 : w2.cell? ⟨w.heap.size, 3, none⟩ = some (.int .i64 0) := (blk_cell bx2 3).trans rfl
    have hc4 : w2.cell? ⟨w.heap.size, 4, none⟩ = some (.int .i64 0) := (blk_cell bx2 4).trans rfl
    have hc5 : w2.cell? ⟨w.heap.size, 5, none⟩ = some (.int .i64 0) := (blk_cell bx2 5).trans rfl
    have hc6 : w2.cell? ⟨w.heap.size, 6, none⟩ = some (.int .i64 0) := (blk_cell bx2 6).trans rfl
    have hc7 : w2.cell? ⟨w.heap.size, 7, none⟩ = some (.slice none 0 0) := (blk_cell bx2 7).trans rfl
    have hc8 : w2.cell? ⟨w.heap.size, 8, none⟩ = some (.int .i64 0) := (blk_cell bx2 8).trans rfl
    have hc9 : w2.cell? ⟨w.heap.size, 9, none⟩ = some (.int .u32 0) := (blk_cell bx2 9).trans rfl
    have hf0 := blk_frozen bx2 0
    have hf1 := blk_frozen bx2 1
    have hf2 := blk_frozen bx2 2
    have hf3 := blk_frozen bx2 3
    have hf4 := blk_frozen bx2 4
    have hf5 := blk_frozen bx2 5
    have hf6 := blk_frozen bx2 6
    have hf7 := blk_frozen bx2 7
    have hf8 := blk_frozen bx2 8
    have hf9 := blk_frozen bx2 9
    have HB2' := Lib.hid HB2
    have bx2' := Lib.hid bx2
    clear HB2 hR2 hB2 HB0 hbox0
    go_wp2
    refine bodyPost_ret (results_ct rfl _ _ w.heap.size 37 #[.int .i64 0, .int .i64 0, .string (⟨#[]⟩ : ByteArray), .int .i64 0, .int .i64 0, .int .i64 0, .int .i64 0, .slice none 0 0, .int .i64 0, .int .u32 0] (0, 0) _ rfl (by refine blk_put (cs := #[.int .i64 0, .int .i64 0, .string (⟨#[]⟩ : ByteArray), .int .i64 0, .int .i64 0, .int .i64 0, .int .i64 0, .slice none 0 0, .int .i64 0, .int .u32 0]) ?_ 9 _ rfl; refine blk_put (cs := #[.int .i64 0, .int .i64 0, .string (⟨#[]⟩ : ByteArray), .int .i64 0, .int .i64 0, .int .i64 0, .int .i64 0, .slice none 0 0, .int .i64 0, .int .u32 0]) ?_ 8 _ rfl; refine blk_put (cs := #[.int .i64 0, .int .i64 0, .string (⟨#[]⟩ : ByteArray), .int .i64 0, .int .i64 0, .int .i64 0, .int .i64 0, .slice none 0 0, .int .i64 0, .int .u32 0]) ?_ 7 _ rfl; refine blk_put (cs := #[.int .i64 0, .int .i64 0, .string (⟨#[]⟩ : ByteArray), .int .i64 0, .int .i64 0, .int .i64 0, .int .i64 0, .slice none 0 0, .int .i64 0, .int .u32 0]) ?_ 6 _ rfl; refine blk_put (cs := #[.int .i64 0, .int .i64 0, .string (⟨#[]⟩ : ByteArray), .int .i64 0, .int .i64 0, .int .i64 0, .int .i64 0, .slice none 0 0, .int .i64 0, .int .u32 0]) ?_ 5 _ rfl; refine blk_put (cs := #[.int .i64 0, .int .i64 0, .string (⟨#[]⟩ : ByteArray), .int .i64 0, .int .i64 0, .int .i64 0, .int .i64 0, .slice none 0 0, .int .i64 0, .int .u32 0]) ?_ 4 _ rfl; refine blk_put (cs := #[.int .i64 0, .int .i64 0, .string (⟨#[]⟩ : ByteArray), .int .i64 0, .int .i64 0, .int .i64 0, .int .i64 0, .slice none 0 0, .int .i64 0, .int .u32 0]) ?_ 3 _ rfl; refine blk_put (cs := #[.int .i64 0, .int .i64 0, .string (⟨#[]⟩ : ByteArray), .int .i64 0, .int .i64 0, .int .i64 0, .int .i64 0, .slice none 0 0, .int .i64 0, .int .u32 0]) ?_ 2 _ rfl; refine blk_put (cs := #[.int .i64 0, .int .i64 0, .string (⟨#[]⟩ : ByteArray), .int .i64 0, .int .i64 0, .int .i64 0, .int .i64 0, .slice none 0 0, .int .i64 0, .int .u32 0]) ?_ 1 _ rfl; refine blk_put (cs := #[.int .i64 0, .int .i64 0, .string (⟨#[]⟩ : ByteArray), .int .i64 0, .int .i64 0, .int .i64 0, .int .i64 0, .slice none 0 0, .int .i64 0, .int .u32 0]) ?_ 0 _ rfl; exact bx2'.out) Tryd.underlying37 rfl (by kernel_rfl)) rfl ?_
    exact ⟨_, rfl, Kd.R_nil _ _ _ _ _, (below_set (below_set (below_set (below_set (below_set (below_set (below_set (below_set (below_set (below_set HB2'.out (Nat.le_refl _)) (Nat.le_refl _)) (Nat.le_refl _)) (Nat.le_refl _)) (Nat.le_refl _)) (Nat.le_refl _)) (Nat.le_refl _)) (Nat.le_refl _)) (Nat.le_refl _)) (Nat.le_refl _))⟩
  | cons a l =>
    go_enter Tryd.func53, Tryd.ntmps53
    go_wp2_with fail
    have hbox0 : (w.alloc (.cells #[.int .i64 0, .int .i64 0, .string (⟨#[]⟩ : ByteArray), .int .i64 0, .int .i64 0, .int .i64 0, .int .i64 0, .slice none 0 0, .int .i64 0, .int .u32 0] 37)).heap[w.heap.size]? = some (.cells #[.int .i64 0, .int .i64 0, .string (⟨#[]⟩ : ByteArray), .int .i64 0, .int .i64 0, .int .i64 0, .int .i64 0, .slice none 0 0, .int .i64 0, .int .u32 0] 37 (0, 0)) := blk_new w _
    have HB0 : Below w.heap.size w (w.alloc (.cells #[.int .i64 0, .int .i64 0, .string (⟨#[]⟩ : ByteArray), .int .i64 0, .int .i64 0, .int .i64 0, .int .i64 0, .slice none 0 0, .int .i64 0, .int .u32 0] 37)) := below_alloc (Below.refl _ _) _
    generalize w.alloc (.cells #[.int .i64 0, .int .i64 0, .string (⟨#[]⟩ : ByteArray), .int .i64 0, .int .i64 0, .int .i64 0, .int .i64 0, .slice none 0 0, .int .i64 0, .int .u32 0] 37) = W0 at *
    refine (HL.out W0 (HD.out.below HB0) (HFF.out.keeps _ _ HI.out HB0)).mono ?_
    rintro e w2 ⟨v0, rfl, hR2, hB2⟩
    have HB2 : Below w.heap.size w w2 := HB0.trans (hB2.mono HB0.size)
    have bx2 := blk_below hbox0 hB2
    obtain ⟨Al, cl, el⟩ := Kd.R_slice hR2
    subst el
    obtain ⟨ad, ea, hx⟩ := Kd.at_int (Kd.R_reads' hR2).2.2 0 (by omega) (by simp)
    subst ea
    have hx1 : w2.cell? ad = some (.int .i64 a) := by rw [show ((0 : Int)).toNat = 0 from rfl, Addr.add_zero'] at hx; exact hx
    have q1 : (0 < (a :: l).length) = True := eq_true (by simp)
    have q2 : (0 < ((a :: l).length : Int)) = True := eq_true (by simp)
    have hl0 : (((l.length : Int) + 1) == 0) = false := by simp; omega
    have hl1 : ((l.length : Int) + 1 = 0) = False := eq_false (by omega)
    clear hx
    have HB2' := Lib.hid HB2
    have bx2' := Lib.hid bx2
    clear HB2 bx2 hR2 hB2 HB0 hbox0
    go_wp2_with fail
    refine (params_Get.calls a r1 r2 r3 r4 r5 r6 r7 r8 r9 r10 r11 _ (HD.out.below HB2'.out) HH.out).mono ?_
    rintro e w3 ⟨v7, rfl, hR3, hB3⟩
    obtain ⟨A7, c7, e7⟩ := Kd.R_slice hR3
    subst e7
    have HB3 := Lib.hid (HB2'.out.trans (hB3.mono HB2'.out.size))
    have bx3 := blk_below bx2'.out hB3
    have hR3' := Lib.hid (Kd.R_lower hR3 HB2'.out.size)
    clear hB3 hR3
    have hc0 : w3.cell? ⟨w.heap.size, 0, none⟩ = some (.int .i64 0) := (blk_cell bx3 0).trans rfl
    have hc1 : w3.cell? ⟨w.heap.size, 1, none⟩ = some (.int .i64 0) := (blk_cell bx3 1).trans rfl
    have hc2 : w3.cell? ⟨w.heap.size, 2, none⟩ = some (.string (⟨#[]⟩ : ByteArray)) := (blk_cell bx3 2).trans rfl
    have hc3 : w3.cell? ⟨w.heap.size, 3, none⟩ = some (.int .i64 0) := (blk_cell bx3 3).trans rfl
    have hc4 : w3.cell? ⟨w.heap.size, 4, none⟩ = some (.int .i64 0) := (blk_cell bx3 4).trans rfl
    have hc5 : w3.cell? ⟨w.heap.size, 5, none⟩ = some (.int .i64 0) := (blk_cell bx3 5).trans rfl
    have hc6 : w3.cell? ⟨w.heap.size, 6, none⟩ = some (.int .i64 0) := (blk_cell bx3 6).trans rfl
    have hc7 : w3.cell? ⟨w.heap.size, 7, none⟩ = some (.slice none 0 0) := (blk_cell bx3 7).trans rfl
    have hc8 : w3.cell? ⟨w.heap.size, 8, none⟩ = some (.int .i64 0) := (blk_cell bx3 8).trans rfl
    have hc9 : w3.cell? ⟨w.heap.size, 9, none⟩ = some (.int .u32 0) := (blk_cell bx3 9).trans rfl
    have hf0 := blk_frozen bx3 0
    have hf1 := blk_frozen bx3 1
    have hf2 := blk_frozen bx3 2
    have hf3 := blk_frozen bx3 3
    have hf4 := blk_frozen bx3 4
    have hf5 := blk_frozen bx3 5
    have hf6 := blk_frozen bx3 6
    have hf7 := blk_frozen bx3 7
    have hf8 := blk_frozen bx3 8
    have hf9 := blk_frozen bx3 9
    have bx3' := Lib.hid bx3
    clear bx3
    go_wp2
    refine bodyPost_ret (results_ct rfl _ _ w.heap.size 37 #[.int .i64 r1, .int .i64 r2, .string r3, .int .i64 r4, .int .i64 r5, .int .i64 r6, .int .i64 r7, .slice A7 r8.length c7, .int .i64 r9, .int .u32 r10] (0, 0) _ rfl (by refine blk_put (cs := #[.int .i64 r1, .int .i64 r2, .string r3, .int .i64 r4, .int .i64 r5, .int .i64 r6, .int .i64 r7, .slice A7 r8.length c7, .int .i64 r9, .int .u32 0]) ?_ 9 _ rfl; refine blk_put (cs := #[.int .i64 r1, .int .i64 r2, .string r3, .int .i64 r4, .int .i64 r5, .int .i64 r6, .int .i64 r7, .slice A7 r8.length c7, .int .i64 0, .int .u32 0]) ?_ 8 _ rfl; refine blk_put (cs := #[.int .i64 r1, .int .i64 r2, .string r3, .int .i64 r4, .int .i64 r5, .int .i64 r6, .int .i64 r7, .slice none 0 0, .int .i64 0, .int .u32 0]) ?_ 7 _ rfl; refine blk_put (cs := #[.int .i64 r1, .int .i64 r2, .string r3, .int .i64 r4, .int .i64 r5, .int .i64 r6, .int .i64 0, .slice none 0 0, .int .i64 0, .int .u32 0]) ?_ 6 _ rfl; refine blk_put (cs := #[.int .i64 r1, .int .i64 r2, .string r3, .int .i64 r4, .int .i64 r5, .int .i64 0, .int .i64 0, .slice none 0 0, .int .i64 0, .int .u32 0]) ?_ 5 _ rfl; refine blk_put (cs := #[.int .i64 r1, .int .i64 r2, .string r3, .int .i64 r4, .int .i64 0, .int .i64 0, .int .i64 0, .slice none 0 0, .int .i64 0, .int .u32 0]) ?_ 4 _ rfl; refine blk_put (cs := #[.int .i64 r1, .int .i64 r2, .string r3, .int .i64 0, .int .i64 0, .int .i64 0, .int .i64 0, .slice none 0 0, .int .i64 0, .int .u32 0]) ?_ 3 _ rfl; refine blk_put (cs := #[.int .i64 r1, .int .i64 r2, .string (⟨#[]⟩ : ByteArray), .int .i64 0, .int .i64 0, .int .i64 0, .int .i64 0, .slice none 0 0, .int .i64 0, .int .u32 0]) ?_ 2 _ rfl; refine blk_put (cs := #[.int .i64 r1, .int .i64 0, .string (⟨#[]⟩ : ByteArray), .int .i64 0, .int .i64 0, .int .i64 0, .int .i64 0, .slice none 0 0, .int .i64 0, .int .u32 0]) ?_ 1 _ rfl; refine blk_put (cs := #[.int .i64 0, .int .i64 0, .string (⟨#[]⟩ : ByteArray), .int .i64 0, .int .i64 0, .int .i64 0, .int .i64 0, .slice none 0 0, .int .i64 0, .int .u32 0]) ?_ 0 _ rfl; exact bx3'.out) Tryd.underlying37 rfl (by kernel_rfl)) rfl ?_
    exact ⟨_, rfl, Kd.R_mono (Kd.R_far (p := ⟨w.heap.size, 9, none⟩) (Kd.R_far (p := ⟨w.heap.size, 8, none⟩) (Kd.R_far (p := ⟨w.heap.size, 7, none⟩) (Kd.R_far (p := ⟨w.heap.size, 6, none⟩) (Kd.R_far (p := ⟨w.heap.size, 5, none⟩) (Kd.R_far (p := ⟨w.heap.size, 4, none⟩) (Kd.R_far (p := ⟨w.heap.size, 3, none⟩) (Kd.R_far (p := ⟨w.heap.size, 2, none⟩) (Kd.R_far (p := ⟨w.heap.size, 1, none⟩) (Kd.R_far (p := ⟨w.heap.size, 0, none⟩) (Kd.R_types hR3'.out bx3'.out (by decide)) (fun _ hk => hk.2) (.int .i64 r1)) (fun _ hk => hk.2) (.int .i64 r2)) (fun _ hk => hk.2) (.string r3)) (fun _ hk => hk.2) (.int .i64 r4)) (fun _ hk => hk.2) (.int .i64 r5)) (fun _ hk => hk.2) (.int .i64 r6)) (fun _ hk => hk.2) (.int .i64 r7)) (fun _ hk => hk.2) (.slice A7 r8.length c7)) (fun _ hk => hk.2) (.int .i64 r9)) (fun _ hk => hk.2) (.int .u32 r10)) (fun _ _ => trivial), (below_set (below_set (below_set (below_set (below_set (below_set (below_set (below_set (below_set (below_set HB3.out (Nat.le_refl _)) (Nat.le_refl _)) (Nat.le_refl _)) (Nat.le_refl _)) (Nat.le_refl _)) (Nat.le_refl _)) (Nat.le_refl _)) (Nat.le_refl _)) (Nat.le_refl _)) (Nat.le_refl _))⟩
end Go.Proofs.YtjoncjnmhhimhaaDoor.Hand
end

section
/- The closures of params.ByName, ByCOSE, ByType, ByOID, BySize. -/
namespace Go.Proofs.YtjoncjnmhhimhaaDoor.Hand
set_option linter.unusedVariables false
set_option linter.unusedSimpArgs false
open Go.RowKit Go.Proofs.YtjoncjnmhhimhaaDoorW.PrintWords Go.Proofs.YtjoncjnmhhimhaaDoorW.PrintLast Go.Proofs.YtjoncjnmhhimhaaDoorW.PrintMore

def rowOf (a : Int) : Int × Int × ByteArray × Int × Int × Int × Int × List Int × Int × Int × Bool := (params_Get.f a).getD parNone
def pName (name : ByteArray) (a : Int) : Bool := (rowOf a).2.2.1.toList == name.toList

set_option maxHeartbeats 4000000 in
set_option maxRecDepth 100000 in
theorem name_holds (name : ByteArray) (G : Nat) : Holds 54 #[.pointer (some ⟨G, 0, none⟩)] (pName name) (fun W => Boxed W G 9 (.string name)) where
  enters := fun args W => enters_ Tryd.func54 (by kernel_rfl) rfl args W
  keeps := fun W W' h hb => (hb.block G h.lt).trans h
  says := by
    intro a r1 r2 r3 r4 r5 r6 r7 r8 r9 r10 A7 c7 W hrow hC hc7 hI
    have hp : pName name a = (r3.toList == name.toList) := by unfold pName rowOf; rw [hrow]; rfl
    have hcell := hI.cell
    have HP := Lib.hid hp
    rw [hp]
    clear hp hrow
    have hal : ∀ o, (W.alloc o).cell? ⟨G, 0, none⟩ = some (.string name) := fun o => (hI.alloc o).cell
    refine calls_of_args (args' := #[.agg #[.int .i64 r1, .int .i64 r2, .string r3, .int .i64 r4, .int .i64 r5, .int .i64 r6, .int .i64 r7, .slice A7 r8.length c7, .int .i64 r9, .int .u32 r10], .pointer (some ⟨G, 0, none⟩)]) rfl ?_
    go_enter Tryd.func54, Tryd.ntmps54
    go_wp2
    go_ret
    exact ⟨rfl, below_alloc (Below.refl _ _) _⟩
def pCose (n : Int) (a : Int) : Bool := (n != 0) && ((rowOf a).2.2.2.2.2.2.2.2.1 == n)
set_option maxHeartbeats 4000000 in
set_option maxRecDepth 100000 in
theorem cose_holds (n : Int) (G : Nat) : Holds 55 #[.pointer (some ⟨G, 0, none⟩)] (pCose n) (fun W => Boxed W G 2 (.int .i64 n)) where
  enters := fun args W => enters_ Tryd.func55 (by kernel_rfl) rfl args W
  keeps := fun W W' h hb => (hb.block G h.lt).trans h
  says := by
    intro a r1 r2 r3 r4 r5 r6 r7 r8 r9 r10 A7 c7 W hrow hC hc7 hI
    have hp : pCose n a = ((n != 0) && (r9 == n)) := by unfold pCose rowOf; rw [hrow]; rfl
    have hcell := hI.cell
    rw [hp]
    clear hp hrow
    have hal : ∀ o, (W.alloc o).cell? ⟨G, 0, none⟩ = some (.int .i64 n) := fun o => (hI.alloc o).cell
    refine calls_of_args (args' := #[.agg #[.int .i64 r1, .int .i64 r2, .string r3, .int .i64 r4, .int .i64 r5, .int .i64 r6, .int .i64 r7, .slice A7 r8.length c7, .int .i64 r9, .int .u32 r10], .pointer (some ⟨G, 0, none⟩)]) rfl ?_
    by_cases hn : n = 0
    · subst hn
      go_enter Tryd.func55, Tryd.ntmps55
      go_wp2
      go_ret
      exact ⟨rfl, below_alloc (Below.refl _ _) _⟩
    · have g1 : (n == 0) = false := by simpa using hn
      have g2 : (n != 0) = true := by simpa using hn
      rw [g2, Bool.true_and]
      go_enter Tryd.func55, Tryd.ntmps55
      go_wp2
      go_ret
      exact ⟨rfl, below_alloc (Below.refl _ _) _⟩
def pType (n : Int) (a : Int) : Bool := (n != 0) && ((rowOf a).2.2.2.2.2.2.2.2.2.1 == n)
set_option maxHeartbeats 4000000 in
set_option maxRecDepth 100000 in
theorem type_holds (n : Int) (G : Nat) : Holds 56 #[.pointer (some ⟨G, 0, none⟩)] (pType n) (fun W => Boxed W G 27 (.int .u32 n)) where
  enters := fun args W => enters_ Tryd.func56 (by kernel_rfl) rfl args W
  keeps := fun W W' h hb => (hb.block G h.lt).trans h
  says := by
    intro a r1 r2 r3 r4 r5 r6 r7 r8 r9 r10 A7 c7 W hrow hC hc7 hI
    have hp : pType n a = ((n != 0) && (r10 == n)) := by unfold pType rowOf; rw [hrow]; rfl
    have hcell := hI.cell
    rw [hp]
    clear hp hrow
    have hal : ∀ o, (W.alloc o).cell? ⟨G, 0, none⟩ = some (.int .u32 n) := fun o => (hI.alloc o).cell
    refine calls_of_args (args' := #[.agg #[.int .i64 r1, .int .i64 r2, .string r3, .int .i64 r4, .int .i64 r5, .int .i64 r6, .int .i64 r7, .slice A7 r8.length c7, .int .i64 r9, .int .u32 r10], .pointer (some ⟨G, 0, none⟩)]) rfl ?_
    by_cases hn : n = 0
    · subst hn
      go_enter Tryd.func56, Tryd.ntmps56
      go_wp2
      go_ret
      exact ⟨rfl, below_alloc (Below.refl _ _) _⟩
    · have g1 : (n == 0) = false := by simpa using hn
      have g2 : (n != 0) = true := by simpa using hn
      rw [g2, Bool.true_and]
      go_enter Tryd.func56, Tryd.ntmps56
      go_wp2
      go_ret
      exact ⟨rfl, below_alloc (Below.refl _ _) _⟩
def pSize (fam sig : Int) (a : Int) : Bool := (sig != 0) && ((rowOf a).2.1 == fam) && ((rowOf a).2.2.2.2.2.2.1 == sig)
set_option maxHeartbeats 4000000 in
set_option maxRecDepth 100000 in
theorem size_holds (fam sig : Int) (F G : Nat) : Holds 52 #[.pointer (some ⟨G, 0, none⟩), .pointer (some ⟨F, 0, none⟩)] (pSize fam sig) (fun W => Boxed W G 3 (.int .i64 sig) ∧ Boxed W F 3 (.int .i64 fam)) where
  enters := fun args W => enters_ Tryd.func52 (by kernel_rfl) rfl args W
  keeps := fun W W' h hb => ⟨(hb.block G h.1.lt).trans h.1, (hb.block F h.2.lt).trans h.2⟩
  says := by
    intro a r1 r2 r3 r4 r5 r6 r7 r8 r9 r10 A7 c7 W hrow hC hc7 hI
    have hp : pSize fam sig a = ((sig != 0) && (r2 == fam) && (r7 == sig)) := by unfold pSize rowOf; rw [hrow]; rfl
    have hcell := hI.1.cell
    rw [hp]
    clear hp hrow
    have hal : ∀ o, (W.alloc o).cell? ⟨G, 0, none⟩ = some (.int .i64 sig) := fun o => (hI.1.alloc o).cell
    have hal2 : ∀ o, (W.alloc o).cell? ⟨F, 0, none⟩ = some (.int .i64 fam) := fun o => (hI.2.alloc o).cell
    refine calls_of_args (args' := #[.agg #[.int .i64 r1, .int .i64 r2, .string r3, .int .i64 r4, .int .i64 r5, .int .i64 r6, .int .i64 r7, .slice A7 r8.length c7, .int .i64 r9, .int .u32 r10], .pointer (some ⟨G, 0, none⟩), .pointer (some ⟨F, 0, none⟩)]) rfl ?_
    by_cases hn : sig = 0
    · subst hn
      go_enter Tryd.func52, Tryd.ntmps52
      go_wp2
      go_ret
      exact ⟨rfl, below_alloc (Below.refl _ _) _⟩
    · have g1 : (sig == 0) = false := by simpa using hn
      have g2 : (sig != 0) = true := by simpa using hn
      by_cases hf : r2 = fam
      · have g3 : (r2 == fam) = true := by simpa using hf
        rw [g2, g3, Bool.true_and, Bool.true_and]
        go_enter Tryd.func52, Tryd.ntmps52
        go_wp2
        go_ret
        exact ⟨rfl, below_alloc (Below.refl _ _) _⟩
      · have g3 : (r2 == fam) = false := by simpa using hf
        rw [g2, g3, Bool.true_and, Bool.false_and]
        go_enter Tryd.func52, Tryd.ntmps52
        go_wp2
        go_ret
        exact ⟨rfl, below_alloc (Below.refl _ _) _⟩
end Go.Proofs.YtjoncjnmhhimhaaDoor.Hand
end

section
/- params.BySize, ByOID, ByName, ByCOSE, ByType. -/
namespace Go.Proofs.YtjoncjnmhhimhaaDoor.Hand
set_option linter.unusedVariables false
set_option linter.unusedSimpArgs false
open Go.RowKit Go.Proofs.YtjoncjnmhhimhaaDoorW.PrintWords Go.Proofs.YtjoncjnmhhimhaaDoorW.PrintLast Go.Proofs.YtjoncjnmhhimhaaDoorW.PrintMore

def params_BySize.f (a0 a1 : Int) : Option (List Int) := some (lst (pSize a0 a1) 25)
set_option maxHeartbeats 4000000 in
set_option maxRecDepth 100000 in
theorem params_BySize.calls (a0 : Int) (a1 : Int) (r : List Int) (w : World) (HLd : LaidOk w) (h : params_BySize.f a0 a1 = some r) :
    Calls Tryd.prog 31 #[.int .i64 a0, .int .i64 a1] w fun e w' => ∃ v0_ : Value, e = .returned (v0_) ∧ Kd.R (Kd.int .i64) 3 w' w.heap.size (fun _ => True) v0_ r ∧ Below w.heap.size w w' := by
  obtain rfl := Option.some.inj h
  clear h
  have HD := Lib.hid HLd
  clear HLd
  go_enter Tryd.func31, Tryd.ntmps31
  go_wp2_with fail
  have b1 : Boxed ((w.alloc (.cells #[.int .i64 a0] 3)).alloc (.cells #[.int .i64 a1] 3)) w.heap.size 3 (.int .i64 a0) := (Boxed.new w 3 (.int .i64 a0)).alloc _
  have b2 : Boxed ((w.alloc (.cells #[.int .i64 a0] 3)).alloc (.cells #[.int .i64 a1] 3)) (w.heap.size + 1) 3 (.int .i64 a1) := by
    have := Boxed.new (w.alloc (.cells #[.int .i64 a0] 3)) 3 (.int .i64 a1)
    simpa using this
  have HB0 : Below w.heap.size w ((w.alloc (.cells #[.int .i64 a0] 3)).alloc (.cells #[.int .i64 a1] 3)) := below_alloc (below_alloc (Below.refl _ _) _) _
  generalize (w.alloc (.cells #[.int .i64 a0] 3)).alloc (.cells #[.int .i64 a1] 3) = W0 at *
  refine (list_any _ _ (pSize a0 a1) _ (size_holds a0 a1 w.heap.size (w.heap.size + 1)) W0 (HD.out.below HB0) ⟨b2, b1⟩).mono ?_
  rintro e w2 ⟨v0, rfl, hR, hB⟩
  obtain ⟨Al, cl, el⟩ := Kd.R_slice hR
  subst el
  have HB2 := Lib.hid (HB0.trans (hB.mono HB0.size))
  have HR2 := Lib.hid (Kd.R_lower hR HB0.size)
  clear hR hB HB0 b1 b2
  go_wp2
  go_ret
  exact ⟨_, rfl, HR2.out, HB2.out⟩
end Go.Proofs.YtjoncjnmhhimhaaDoor.Hand
end

section
/- params.ByName, ByCOSE, ByType. Printed by wip/tools/genfn.py. -/
namespace Go.Proofs.YtjoncjnmhhimhaaDoor.Hand
set_option linter.unusedVariables false
set_option linter.unusedSimpArgs false
open Go.RowKit Go.Proofs.YtjoncjnmhhimhaaDoorW.PrintWords Go.Proofs.YtjoncjnmhhimhaaDoorW.PrintLast Go.Proofs.YtjoncjnmhhimhaaDoorW.PrintMore

def params_ByName.f (a0 : ByteArray) : Option (Int × Int × ByteArray × Int × Int × Int × Int × List Int × Int × Int × Bool) := oneF (pName a0)
set_option maxHeartbeats 4000000 in
set_option maxRecDepth 100000 in
theorem params_ByName.calls (a0 : ByteArray) (r1 : Int) (r2 : Int) (r3 : ByteArray) (r4 : Int) (r5 : Int) (r6 : Int) (r7 : Int) (r8 : List Int) (r9 : Int) (r10 : Int) (r11 : Bool) (w : World) (HLd : LaidOk w) (h : params_ByName.f a0 = some (r1, r2, r3, r4, r5, r6, r7, r8, r9, r10, r11)) :
    Calls Tryd.prog 32 #[.string a0] w fun e w' => ∃ v7_ : Value, e = .returned (.tuple #[.agg #[.int .i64 r1, .int .i64 r2, .string r3, .int .i64 r4, .int .i64 r5, .int .i64 r6, .int .i64 r7, v7_, .int .i64 r9, .int .u32 r10], .bool r11]) ∧ Kd.R (Kd.int .u32) 27 w' w.heap.size (fun _ => True) v7_ r8 ∧ Below w.heap.size w w' := by
  have HD := Lib.hid HLd
  have HH : Hid (oneF (pName a0) = some (r1, r2, r3, r4, r5, r6, r7, r8, r9, r10, r11)) := Lib.hid h
  clear HLd h
  go_enter Tryd.func32, Tryd.ntmps32
  go_wp2_with fail
  have hb1 : Boxed ((w.alloc (.cells #[.string a0] 9)).alloc (.cells #[.int .i64 0, .int .i64 0, .string (⟨#[]⟩ : ByteArray), .int .i64 0, .int .i64 0, .int .i64 0, .int .i64 0, .slice none 0 0, .int .i64 0, .int .u32 0] 37)) w.heap.size 9 (.string a0) := (Boxed.new w 9 (.string a0)).alloc _
  have bx0 : ((w.alloc (.cells #[.string a0] 9)).alloc (.cells #[.int .i64 0, .int .i64 0, .string (⟨#[]⟩ : ByteArray), .int .i64 0, .int .i64 0, .int .i64 0, .int .i64 0, .slice none 0 0, .int .i64 0, .int .u32 0] 37)).heap[w.heap.size + 1]? = some (.cells #[.int .i64 0, .int .i64 0, .string (⟨#[]⟩ : ByteArray), .int .i64 0, .int .i64 0, .int .i64 0, .int .i64 0, .slice none 0 0, .int .i64 0, .int .u32 0] 37 (0, 0)) := by
    have := blk_new (w.alloc (.cells #[.string a0] 9)) (.cells #[.int .i64 0, .int .i64 0, .string (⟨#[]⟩ : ByteArray), .int .i64 0, .int .i64 0, .int .i64 0, .int .i64 0, .slice none 0 0, .int .i64 0, .int .u32 0] 37)
    rw [show (w.alloc (.cells #[.string a0] 9)).heap.size = w.heap.size + 1 by simp] at this
    exact this
  have HB0 : Below w.heap.size w ((w.alloc (.cells #[.string a0] 9)).alloc (.cells #[.int .i64 0, .int .i64 0, .string (⟨#[]⟩ : ByteArray), .int .i64 0, .int .i64 0, .int .i64 0, .int .i64 0, .slice none 0 0, .int .i64 0, .int .u32 0] 37)) := below_alloc (below_alloc (Below.refl _ _) _) _
  generalize (w.alloc (.cells #[.string a0] 9)).alloc (.cells #[.int .i64 0, .int .i64 0, .string (⟨#[]⟩ : ByteArray), .int .i64 0, .int .i64 0, .int .i64 0, .int .i64 0, .slice none 0 0, .int .i64 0, .int .u32 0] 37) = W0 at *
  refine (one_any _ _ (pName a0) _ (name_holds a0 w.heap.size) r1 r2 r3 r4 r5 r6 r7 r8 r9 r10 r11 W0 (HD.out.below HB0) hb1 HH.out).mono ?_
  rintro e w2 ⟨v7, rfl, hR, hB⟩
  obtain ⟨A7, c7, el⟩ := Kd.R_slice hR
  subst el
  have HB2 := Lib.hid (HB0.trans (hB.mono HB0.size))
  have bx2 := blk_below bx0 hB
  have HR2 := Lib.hid (Kd.R_lower hR HB0.size)
  clear hR hB HB0 hb1 bx0
  have hc0 : w2.cell? ⟨w.heap.size + 1, 0, none⟩ = some (.int .i64 0) := (blk_cell bx2 0).trans rfl
  have hc1 : w2.cell? ⟨w.heap.size + 1, 1, none⟩ = some (.int .i64 0) := (blk_cell bx2 1).trans rfl
  have hc2 : w2.cell? ⟨w.heap.size + 1, 2, none⟩ = some (.string (⟨#[]⟩ : ByteArray)) := (blk_cell bx2 2).trans rfl
  have hc3 : w2.cell? ⟨w.heap.size + 1, 3, none⟩ = some (.int .i64 0) := (blk_cell bx2 3).trans rfl
  have hc4 : w2.cell? ⟨w.heap.size + 1, 4, none⟩ = some (.int .i64 0) := (blk_cell bx2 4).trans rfl
  have hc5 : w2.cell? ⟨w.heap.size + 1, 5, none⟩ = some (.int .i64 0) := (blk_cell bx2 5).trans rfl
  have hc6 : w2.cell? ⟨w.heap.size + 1, 6, none⟩ = some (.int .i64 0) := (blk_cell bx2 6).trans rfl
  have hc7 : w2.cell? ⟨w.heap.size + 1, 7, none⟩ = some (.slice none 0 0) := (blk_cell bx2 7).trans rfl
  have hc8 : w2.cell? ⟨w.heap.size + 1, 8, none⟩ = some (.int .i64 0) := (blk_cell bx2 8).trans rfl
  have hc9 : w2.cell? ⟨w.heap.size + 1, 9, none⟩ = some (.int .u32 0) := (blk_cell bx2 9).trans rfl
  have hf0 := blk_frozen bx2 0
  have hf1 := blk_frozen bx2 1
  have hf2 := blk_frozen bx2 2
  have hf3 := blk_frozen bx2 3
  have hf4 := blk_frozen bx2 4
  have hf5 := blk_frozen bx2 5
  have hf6 := blk_frozen bx2 6
  have hf7 := blk_frozen bx2 7
  have hf8 := blk_frozen bx2 8
  have hf9 := blk_frozen bx2 9
  have bx2' := Lib.hid bx2
  clear bx2
  go_wp2
  refine bodyPost_ret (results_ct rfl _ _ (w.heap.size + 1) 37 #[.int .i64 r1, .int .i64 r2, .string r3, .int .i64 r4, .int .i64 r5, .int .i64 r6, .int .i64 r7, .slice A7 r8.length c7, .int .i64 r9, .int .u32 r10] (0, 0) _ rfl (by refine blk_put (cs := #[.int .i64 r1, .int .i64 r2, .string r3, .int .i64 r4, .int .i64 r5, .int .i64 r6, .int .i64 r7, .slice A7 r8.length c7, .int .i64 r9, .int .u32 0]) ?_ 9 _ rfl; refine blk_put (cs := #[.int .i64 r1, .int .i64 r2, .string r3, .int .i64 r4, .int .i64 r5, .int .i64 r6, .int .i64 r7, .slice A7 r8.length c7, .int .i64 0, .int .u32 0]) ?_ 8 _ rfl; refine blk_put (cs := #[.int .i64 r1, .int .i64 r2, .string r3, .int .i64 r4, .int .i64 r5, .int .i64 r6, .int .i64 r7, .slice none 0 0, .int .i64 0, .int .u32 0]) ?_ 7 _ rfl; refine blk_put (cs := #[.int .i64 r1, .int .i64 r2, .string r3, .int .i64 r4, .int .i64 r5, .int .i64 r6, .int .i64 0, .slice none 0 0, .int .i64 0, .int .u32 0]) ?_ 6 _ rfl; refine blk_put (cs := #[.int .i64 r1, .int .i64 r2, .string r3, .int .i64 r4, .int .i64 r5, .int .i64 0, .int .i64 0, .slice none 0 0, .int .i64 0, .int .u32 0]) ?_ 5 _ rfl; refine blk_put (cs := #[.int .i64 r1, .int .i64 r2, .string r3, .int .i64 r4, .int .i64 0, .int .i64 0, .int .i64 0, .slice none 0 0, .int .i64 0, .int .u32 0]) ?_ 4 _ rfl; refine blk_put (cs := #[.int .i64 r1, .int .i64 r2, .string r3, .int .i64 0, .int .i64 0, .int .i64 0, .int .i64 0, .slice none 0 0, .int .i64 0, .int .u32 0]) ?_ 3 _ rfl; refine blk_put (cs := #[.int .i64 r1, .int .i64 r2, .string (⟨#[]⟩ : ByteArray), .int .i64 0, .int .i64 0, .int .i64 0, .int .i64 0, .slice none 0 0, .int .i64 0, .int .u32 0]) ?_ 2 _ rfl; refine blk_put (cs := #[.int .i64 r1, .int .i64 0, .string (⟨#[]⟩ : ByteArray), .int .i64 0, .int .i64 0, .int .i64 0, .int .i64 0, .slice none 0 0, .int .i64 0, .int .u32 0]) ?_ 1 _ rfl; refine blk_put (cs := #[.int .i64 0, .int .i64 0, .string (⟨#[]⟩ : ByteArray), .int .i64 0, .int .i64 0, .int .i64 0, .int .i64 0, .slice none 0 0, .int .i64 0, .int .u32 0]) ?_ 0 _ rfl; exact bx2'.out) Tryd.underlying37 rfl (by kernel_rfl)) rfl ?_
  exact ⟨_, rfl, Kd.R_mono (Kd.R_far (p := ⟨(w.heap.size + 1), 9, none⟩) (Kd.R_far (p := ⟨(w.heap.size + 1), 8, none⟩) (Kd.R_far (p := ⟨(w.heap.size + 1), 7, none⟩) (Kd.R_far (p := ⟨(w.heap.size + 1), 6, none⟩) (Kd.R_far (p := ⟨(w.heap.size + 1), 5, none⟩) (Kd.R_far (p := ⟨(w.heap.size + 1), 4, none⟩) (Kd.R_far (p := ⟨(w.heap.size + 1), 3, none⟩) (Kd.R_far (p := ⟨(w.heap.size + 1), 2, none⟩) (Kd.R_far (p := ⟨(w.heap.size + 1), 1, none⟩) (Kd.R_far (p := ⟨(w.heap.size + 1), 0, none⟩) (Kd.R_types HR2.out bx2'.out (by decide)) (fun _ hk => hk.2) (.int .i64 r1)) (fun _ hk => hk.2) (.int .i64 r2)) (fun _ hk => hk.2) (.string r3)) (fun _ hk => hk.2) (.int .i64 r4)) (fun _ hk => hk.2) (.int .i64 r5)) (fun _ hk => hk.2) (.int .i64 r6)) (fun _ hk => hk.2) (.int .i64 r7)) (fun _ hk => hk.2) (.slice A7 r8.length c7)) (fun _ hk => hk.2) (.int .i64 r9)) (fun _ hk => hk.2) (.int .u32 r10)) (fun _ _ => trivial), (below_set (below_set (below_set (below_set (below_set (below_set (below_set (below_set (below_set (below_set HB2.out (Nat.le_succ _)) (Nat.le_succ _)) (Nat.le_succ _)) (Nat.le_succ _)) (Nat.le_succ _)) (Nat.le_succ _)) (Nat.le_succ _)) (Nat.le_succ _)) (Nat.le_succ _)) (Nat.le_succ _))⟩
def params_ByCOSE.f (a0 : Int) : Option (Int × Int × ByteArray × Int × Int × Int × Int × List Int × Int × Int × Bool) := oneF (pCose a0)
set_option maxHeartbeats 4000000 in
set_option maxRecDepth 100000 in
theorem params_ByCOSE.calls (a0 : Int) (r1 : Int) (r2 : Int) (r3 : ByteArray) (r4 : Int) (r5 : Int) (r6 : Int) (r7 : Int) (r8 : List Int) (r9 : Int) (r10 : Int) (r11 : Bool) (w : World) (HLd : LaidOk w) (h : params_ByCOSE.f a0 = some (r1, r2, r3, r4, r5, r6, r7, r8, r9, r10, r11)) :
    Calls Tryd.prog 33 #[.int .i64 a0] w fun e w' => ∃ v7_ : Value, e = .returned (.tuple #[.agg #[.int .i64 r1, .int .i64 r2, .string r3, .int .i64 r4, .int .i64 r5, .int .i64 r6, .int .i64 r7, v7_, .int .i64 r9, .int .u32 r10], .bool r11]) ∧ Kd.R (Kd.int .u32) 27 w' w.heap.size (fun _ => True) v7_ r8 ∧ Below w.heap.size w w' := by
  have HD := Lib.hid HLd
  have HH : Hid (oneF (pCose a0) = some (r1, r2, r3, r4, r5, r6, r7, r8, r9, r10, r11)) := Lib.hid h
  clear HLd h
  go_enter Tryd.func33, Tryd.ntmps33
  go_wp2_with fail
  have hb1 : Boxed ((w.alloc (.cells #[.int .i64 a0] 2)).alloc (.cells #[.int .i64 0, .int .i64 0, .string (⟨#[]⟩ : ByteArray), .int .i64 0, .int .i64 0, .int .i64 0, .int .i64 0, .slice none 0 0, .int .i64 0, .int .u32 0] 37)) w.heap.size 2 (.int .i64 a0) := (Boxed.new w 2 (.int .i64 a0)).alloc _
  have bx0 : ((w.alloc (.cells #[.int .i64 a0] 2)).alloc (.cells #[.int .i64 0, .int .i64 0, .string (⟨#[]⟩ : ByteArray), .int .i64 0, .int .i64 0, .int .i64 0, .int .i64 0, .slice none 0 0, .int .i64 0, .int .u32 0] 37)).heap[w.heap.size + 1]? = some (.cells #[.int .i64 0, .int .i64 0, .string (⟨#[]⟩ : ByteArray), .int .i64 0, .int .i64 0, .int .i64 0, .int .i64 0, .slice none 0 0, .int .i64 0, .int .u32 0] 37 (0, 0)) := by
    have := blk_new (w.alloc (.cells #[.int .i64 a0] 2)) (.cells #[.int .i64 0, .int .i64 0, .string (⟨#[]⟩ : ByteArray), .int .i64 0, .int .i64 0, .int .i64 0, .int .i64 0, .slice none 0 0, .int .i64 0, .int .u32 0] 37)
    rw [show (w.alloc (.cells #[.int .i64 a0] 2)).heap.size = w.heap.size + 1 by simp] at this
    exact this
  have HB0 : Below w.heap.size w ((w.alloc (.cells #[.int .i64 a0] 2)).alloc (.cells #[.int .i64 0, .int .i64 0, .string (⟨#[]⟩ : ByteArray), .int .i64 0, .int .i64 0, .int .i64 0, .int .i64 0, .slice none 0 0, .int .i64 0, .int .u32 0] 37)) := below_alloc (below_alloc (Below.refl _ _) _) _
  generalize (w.alloc (.cells #[.int .i64 a0] 2)).alloc (.cells #[.int .i64 0, .int .i64 0, .string (⟨#[]⟩ : ByteArray), .int .i64 0, .int .i64 0, .int .i64 0, .int .i64 0, .slice none 0 0, .int .i64 0, .int .u32 0] 37) = W0 at *
  refine (one_any _ _ (pCose a0) _ (cose_holds a0 w.heap.size) r1 r2 r3 r4 r5 r6 r7 r8 r9 r10 r11 W0 (HD.out.below HB0) hb1 HH.out).mono ?_
  rintro e w2 ⟨v7, rfl, hR, hB⟩
  obtain ⟨A7, c7, el⟩ := Kd.R_slice hR
  subst el
  have HB2 := Lib.hid (HB0.trans (hB.mono HB0.size))
  have bx2 := blk_below bx0 hB
  have HR2 := Lib.hid (Kd.R_lower hR HB0.size)
  clear hR hB HB0 hb1 bx0
  have hc0 : w2.cell? ⟨w.heap.size + 1, 0, none⟩ = some (.int .i64 0) := (blk_cell bx2 0).trans rfl
  have hc1 : w2.cell? ⟨w.heap.size + 1, 1, none⟩ = some (.int .i64 0) := (blk_cell bx2 1).trans rfl
  have hc2 : w2.cell? ⟨w.heap.size + 1, 2, none⟩ = some (.string (⟨#[]⟩ : ByteArray)) := (blk_cell bx2 2).trans rfl
  have hc3 : w2.cell? ⟨w.heap.size + 1, 3, none⟩ = some (.int .i64 0) := (blk_cell bx2 3).trans rfl
  have hc4 : w2.cell? ⟨w.heap.size + 1, 4, none⟩ = some (.int .i64 0) := (blk_cell bx2 4).trans rfl
  have hc5 : w2.cell? ⟨w.heap.size + 1, 5, none⟩ = some (.int .i64 0) := (blk_cell bx2 5).trans rfl
  have hc6 : w2.cell? ⟨w.heap.size + 1, 6, none⟩ = some (.int .i64 0) := (blk_cell bx2 6).trans rfl
  have hc7 : w2.cell? ⟨w.heap.size + 1, 7, none⟩ = some (.slice none 0 0) := (blk_cell bx2 7).trans rfl
  have hc8 : w2.cell? ⟨w.heap.size + 1, 8, none⟩ = some (.int .i64 0) := (blk_cell bx2 8).trans rfl
  have hc9 : w2.cell? ⟨w.heap.size + 1, 9, none⟩ = some (.int .u32 0) := (blk_cell bx2 9).trans rfl
  have hf0 := blk_frozen bx2 0
  have hf1 := blk_frozen bx2 1
  have hf2 := blk_frozen bx2 2
  have hf3 := blk_frozen bx2 3
  have hf4 := blk_frozen bx2 4
  have hf5 := blk_frozen bx2 5
  have hf6 := blk_frozen bx2 6
  have hf7 := blk_frozen bx2 7
  have hf8 := blk_frozen bx2 8
  have hf9 := blk_frozen bx2 9
  have bx2' := Lib.hid bx2
  clear bx2
  go_wp2
  refine bodyPost_ret (results_ct rfl _ _ (w.heap.size + 1) 37 #[.int .i64 r1, .int .i64 r2, .string r3, .int .i64 r4, .int .i64 r5, .int .i64 r6, .int .i64 r7, .slice A7 r8.length c7, .int .i64 r9, .int .u32 r10] (0, 0) _ rfl (by refine blk_put (cs := #[.int .i64 r1, .int .i64 r2, .string r3, .int .i64 r4, .int .i64 r5, .int .i64 r6, .int .i64 r7, .slice A7 r8.length c7, .int .i64 r9, .int .u32 0]) ?_ 9 _ rfl; refine blk_put (cs := #[.int .i64 r1, .int .i64 r2, .string r3, .int .i64 r4, .int .i64 r5, .int .i64 r6, .int .i64 r7, .slice A7 r8.length c7, .int .i64 0, .int .u32 0]) ?_ 8 _ rfl; refine blk_put (cs := #[.int .i64 r1, .int .i64 r2, .string r3, .int .i64 r4, .int .i64 r5, .int .i64 r6, .int .i64 r7, .slice none 0 0, .int .i64 0, .int .u32 0]) ?_ 7 _ rfl; refine blk_put (cs := #[.int .i64 r1, .int .i64 r2, .string r3, .int .i64 r4, .int .i64 r5, .int .i64 r6, .int .i64 0, .slice none 0 0, .int .i64 0, .int .u32 0]) ?_ 6 _ rfl; refine blk_put (cs := #[.int .i64 r1, .int .i64 r2, .string r3, .int .i64 r4, .int .i64 r5, .int .i64 0, .int .i64 0, .slice none 0 0, .int .i64 0, .int .u32 0]) ?_ 5 _ rfl; refine blk_put (cs := #[.int .i64 r1, .int .i64 r2, .string r3, .int .i64 r4, .int .i64 0, .int .i64 0, .int .i64 0, .slice none 0 0, .int .i64 0, .int .u32 0]) ?_ 4 _ rfl; refine blk_put (cs := #[.int .i64 r1, .int .i64 r2, .string r3, .int .i64 0, .int .i64 0, .int .i64 0, .int .i64 0, .slice none 0 0, .int .i64 0, .int .u32 0]) ?_ 3 _ rfl; refine blk_put (cs := #[.int .i64 r1, .int .i64 r2, .string (⟨#[]⟩ : ByteArray), .int .i64 0, .int .i64 0, .int .i64 0, .int .i64 0, .slice none 0 0, .int .i64 0, .int .u32 0]) ?_ 2 _ rfl; refine blk_put (cs := #[.int .i64 r1, .int .i64 0, .string (⟨#[]⟩ : ByteArray), .int .i64 0, .int .i64 0, .int .i64 0, .int .i64 0, .slice none 0 0, .int .i64 0, .int .u32 0]) ?_ 1 _ rfl; refine blk_put (cs := #[.int .i64 0, .int .i64 0, .string (⟨#[]⟩ : ByteArray), .int .i64 0, .int .i64 0, .int .i64 0, .int .i64 0, .slice none 0 0, .int .i64 0, .int .u32 0]) ?_ 0 _ rfl; exact bx2'.out) Tryd.underlying37 rfl (by kernel_rfl)) rfl ?_
  exact ⟨_, rfl, Kd.R_mono (Kd.R_far (p := ⟨(w.heap.size + 1), 9, none⟩) (Kd.R_far (p := ⟨(w.heap.size + 1), 8, none⟩) (Kd.R_far (p := ⟨(w.heap.size + 1), 7, none⟩) (Kd.R_far (p := ⟨(w.heap.size + 1), 6, none⟩) (Kd.R_far (p := ⟨(w.heap.size + 1), 5, none⟩) (Kd.R_far (p := ⟨(w.heap.size + 1), 4, none⟩) (Kd.R_far (p := ⟨(w.heap.size + 1), 3, none⟩) (Kd.R_far (p := ⟨(w.heap.size + 1), 2, none⟩) (Kd.R_far (p := ⟨(w.heap.size + 1), 1, none⟩) (Kd.R_far (p := ⟨(w.heap.size + 1), 0, none⟩) (Kd.R_types HR2.out bx2'.out (by decide)) (fun _ hk => hk.2) (.int .i64 r1)) (fun _ hk => hk.2) (.int .i64 r2)) (fun _ hk => hk.2) (.string r3)) (fun _ hk => hk.2) (.int .i64 r4)) (fun _ hk => hk.2) (.int .i64 r5)) (fun _ hk => hk.2) (.int .i64 r6)) (fun _ hk => hk.2) (.int .i64 r7)) (fun _ hk => hk.2) (.slice A7 r8.length c7)) (fun _ hk => hk.2) (.int .i64 r9)) (fun _ hk => hk.2) (.int .u32 r10)) (fun _ _ => trivial), (below_set (below_set (below_set (below_set (below_set (below_set (below_set (below_set (below_set (below_set HB2.out (Nat.le_succ _)) (Nat.le_succ _)) (Nat.le_succ _)) (Nat.le_succ _)) (Nat.le_succ _)) (Nat.le_succ _)) (Nat.le_succ _)) (Nat.le_succ _)) (Nat.le_succ _)) (Nat.le_succ _))⟩
def params_ByType.f (a0 : Int) : Option (Int × Int × ByteArray × Int × Int × Int × Int × List Int × Int × Int × Bool) := oneF (pType a0)
set_option maxHeartbeats 4000000 in
set_option maxRecDepth 100000 in
theorem params_ByType.calls (a0 : Int) (r1 : Int) (r2 : Int) (r3 : ByteArray) (r4 : Int) (r5 : Int) (r6 : Int) (r7 : Int) (r8 : List Int) (r9 : Int) (r10 : Int) (r11 : Bool) (w : World) (HLd : LaidOk w) (h : params_ByType.f a0 = some (r1, r2, r3, r4, r5, r6, r7, r8, r9, r10, r11)) :
    Calls Tryd.prog 34 #[.int .u32 a0] w fun e w' => ∃ v7_ : Value, e = .returned (.tuple #[.agg #[.int .i64 r1, .int .i64 r2, .string r3, .int .i64 r4, .int .i64 r5, .int .i64 r6, .int .i64 r7, v7_, .int .i64 r9, .int .u32 r10], .bool r11]) ∧ Kd.R (Kd.int .u32) 27 w' w.heap.size (fun _ => True) v7_ r8 ∧ Below w.heap.size w w' := by
  have HD := Lib.hid HLd
  have HH : Hid (oneF (pType a0) = some (r1, r2, r3, r4, r5, r6, r7, r8, r9, r10, r11)) := Lib.hid h
  clear HLd h
  go_enter Tryd.func34, Tryd.ntmps34
  go_wp2_with fail
  have hb1 : Boxed ((w.alloc (.cells #[.int .u32 a0] 27)).alloc (.cells #[.int .i64 0, .int .i64 0, .string (⟨#[]⟩ : ByteArray), .int .i64 0, .int .i64 0, .int .i64 0, .int .i64 0, .slice none 0 0, .int .i64 0, .int .u32 0] 37)) w.heap.size 27 (.int .u32 a0) := (Boxed.new w 27 (.int .u32 a0)).alloc _
  have bx0 : ((w.alloc (.cells #[.int .u32 a0] 27)).alloc (.cells #[.int .i64 0, .int .i64 0, .string (⟨#[]⟩ : ByteArray), .int .i64 0, .int .i64 0, .int .i64 0, .int .i64 0, .slice none 0 0, .int .i64 0, .int .u32 0] 37)).heap[w.heap.size + 1]? = some (.cells #[.int .i64 0, .int .i64 0, .string (⟨#[]⟩ : ByteArray), .int .i64 0, .int .i64 0, .int .i64 0, .int .i64 0, .slice none 0 0, .int .i64 0, .int .u32 0] 37 (0, 0)) := by
    have := blk_new (w.alloc (.cells #[.int .u32 a0] 27)) (.cells #[.int .i64 0, .int .i64 0, .string (⟨#[]⟩ : ByteArray), .int .i64 0, .int .i64 0, .int .i64 0, .int .i64 0, .slice none 0 0, .int .i64 0, .int .u32 0] 37)
    rw [show (w.alloc (.cells #[.int .u32 a0] 27)).heap.size = w.heap.size + 1 by simp] at this
    exact this
  have HB0 : Below w.heap.size w ((w.alloc (.cells #[.int .u32 a0] 27)).alloc (.cells #[.int .i64 0, .int .i64 0, .string (⟨#[]⟩ : ByteArray), .int .i64 0, .int .i64 0, .int .i64 0, .int .i64 0, .slice none 0 0, .int .i64 0, .int .u32 0] 37)) := below_alloc (below_alloc (Below.refl _ _) _) _
  generalize (w.alloc (.cells #[.int .u32 a0] 27)).alloc (.cells #[.int .i64 0, .int .i64 0, .string (⟨#[]⟩ : ByteArray), .int .i64 0, .int .i64 0, .int .i64 0, .int .i64 0, .slice none 0 0, .int .i64 0, .int .u32 0] 37) = W0 at *
  refine (one_any _ _ (pType a0) _ (type_holds a0 w.heap.size) r1 r2 r3 r4 r5 r6 r7 r8 r9 r10 r11 W0 (HD.out.below HB0) hb1 HH.out).mono ?_
  rintro e w2 ⟨v7, rfl, hR, hB⟩
  obtain ⟨A7, c7, el⟩ := Kd.R_slice hR
  subst el
  have HB2 := Lib.hid (HB0.trans (hB.mono HB0.size))
  have bx2 := blk_below bx0 hB
  have HR2 := Lib.hid (Kd.R_lower hR HB0.size)
  clear hR hB HB0 hb1 bx0
  have hc0 : w2.cell? ⟨w.heap.size + 1, 0, none⟩ = some (.int .i64 0) := (blk_cell bx2 0).trans rfl
  have hc1 : w2.cell? ⟨w.heap.size + 1, 1, none⟩ = some (.int .i64 0) := (blk_cell bx2 1).trans rfl
  have hc2 : w2.cell? ⟨w.heap.size + 1, 2, none⟩ = some (.string (⟨#[]⟩ : ByteArray)) := (blk_cell bx2 2).trans rfl
  have hc3 : w2.cell? ⟨w.heap.size + 1, 3, none⟩ = some (.int .i64 0) := (blk_cell bx2 3).trans rfl
  have hc4 : w2.cell? ⟨w.heap.size + 1, 4, none⟩ = some (.int .i64 0) := (blk_cell bx2 4).trans rfl
  have hc5 : w2.cell? ⟨w.heap.size + 1, 5, none⟩ = some (.int .i64 0) := (blk_cell bx2 5).trans rfl
  have hc6 : w2.cell? ⟨w.heap.size + 1, 6, none⟩ = some (.int .i64 0) := (blk_cell bx2 6).trans rfl
  have hc7 : w2.cell? ⟨w.heap.size + 1, 7, none⟩ = some (.slice none 0 0) := (blk_cell bx2 7).trans rfl
  have hc8 : w2.cell? ⟨w.heap.size + 1, 8, none⟩ = some (.int .i64 0) := (blk_cell bx2 8).trans rfl
  have hc9 : w2.cell? ⟨w.heap.size + 1, 9, none⟩ = some (.int .u32 0) := (blk_cell bx2 9).trans rfl
  have hf0 := blk_frozen bx2 0
  have hf1 := blk_frozen bx2 1
  have hf2 := blk_frozen bx2 2
  have hf3 := blk_frozen bx2 3
  have hf4 := blk_frozen bx2 4
  have hf5 := blk_frozen bx2 5
  have hf6 := blk_frozen bx2 6
  have hf7 := blk_frozen bx2 7
  have hf8 := blk_frozen bx2 8
  have hf9 := blk_frozen bx2 9
  have bx2' := Lib.hid bx2
  clear bx2
  go_wp2
  refine bodyPost_ret (results_ct rfl _ _ (w.heap.size + 1) 37 #[.int .i64 r1, .int .i64 r2, .string r3, .int .i64 r4, .int .i64 r5, .int .i64 r6, .int .i64 r7, .slice A7 r8.length c7, .int .i64 r9, .int .u32 r10] (0, 0) _ rfl (by refine blk_put (cs := #[.int .i64 r1, .int .i64 r2, .string r3, .int .i64 r4, .int .i64 r5, .int .i64 r6, .int .i64 r7, .slice A7 r8.length c7, .int .i64 r9, .int .u32 0]) ?_ 9 _ rfl; refine blk_put (cs := #[.int .i64 r1, .int .i64 r2, .string r3, .int .i64 r4, .int .i64 r5, .int .i64 r6, .int .i64 r7, .slice A7 r8.length c7, .int .i64 0, .int .u32 0]) ?_ 8 _ rfl; refine blk_put (cs := #[.int .i64 r1, .int .i64 r2, .string r3, .int .i64 r4, .int .i64 r5, .int .i64 r6, .int .i64 r7, .slice none 0 0, .int .i64 0, .int .u32 0]) ?_ 7 _ rfl; refine blk_put (cs := #[.int .i64 r1, .int .i64 r2, .string r3, .int .i64 r4, .int .i64 r5, .int .i64 r6, .int .i64 0, .slice none 0 0, .int .i64 0, .int .u32 0]) ?_ 6 _ rfl; refine blk_put (cs := #[.int .i64 r1, .int .i64 r2, .string r3, .int .i64 r4, .int .i64 r5, .int .i64 0, .int .i64 0, .slice none 0 0, .int .i64 0, .int .u32 0]) ?_ 5 _ rfl; refine blk_put (cs := #[.int .i64 r1, .int .i64 r2, .string r3, .int .i64 r4, .int .i64 0, .int .i64 0, .int .i64 0, .slice none 0 0, .int .i64 0, .int .u32 0]) ?_ 4 _ rfl; refine blk_put (cs := #[.int .i64 r1, .int .i64 r2, .string r3, .int .i64 0, .int .i64 0, .int .i64 0, .int .i64 0, .slice none 0 0, .int .i64 0, .int .u32 0]) ?_ 3 _ rfl; refine blk_put (cs := #[.int .i64 r1, .int .i64 r2, .string (⟨#[]⟩ : ByteArray), .int .i64 0, .int .i64 0, .int .i64 0, .int .i64 0, .slice none 0 0, .int .i64 0, .int .u32 0]) ?_ 2 _ rfl; refine blk_put (cs := #[.int .i64 r1, .int .i64 0, .string (⟨#[]⟩ : ByteArray), .int .i64 0, .int .i64 0, .int .i64 0, .int .i64 0, .slice none 0 0, .int .i64 0, .int .u32 0]) ?_ 1 _ rfl; refine blk_put (cs := #[.int .i64 0, .int .i64 0, .string (⟨#[]⟩ : ByteArray), .int .i64 0, .int .i64 0, .int .i64 0, .int .i64 0, .slice none 0 0, .int .i64 0, .int .u32 0]) ?_ 0 _ rfl; exact bx2'.out) Tryd.underlying37 rfl (by kernel_rfl)) rfl ?_
  exact ⟨_, rfl, Kd.R_mono (Kd.R_far (p := ⟨(w.heap.size + 1), 9, none⟩) (Kd.R_far (p := ⟨(w.heap.size + 1), 8, none⟩) (Kd.R_far (p := ⟨(w.heap.size + 1), 7, none⟩) (Kd.R_far (p := ⟨(w.heap.size + 1), 6, none⟩) (Kd.R_far (p := ⟨(w.heap.size + 1), 5, none⟩) (Kd.R_far (p := ⟨(w.heap.size + 1), 4, none⟩) (Kd.R_far (p := ⟨(w.heap.size + 1), 3, none⟩) (Kd.R_far (p := ⟨(w.heap.size + 1), 2, none⟩) (Kd.R_far (p := ⟨(w.heap.size + 1), 1, none⟩) (Kd.R_far (p := ⟨(w.heap.size + 1), 0, none⟩) (Kd.R_types HR2.out bx2'.out (by decide)) (fun _ hk => hk.2) (.int .i64 r1)) (fun _ hk => hk.2) (.int .i64 r2)) (fun _ hk => hk.2) (.string r3)) (fun _ hk => hk.2) (.int .i64 r4)) (fun _ hk => hk.2) (.int .i64 r5)) (fun _ hk => hk.2) (.int .i64 r6)) (fun _ hk => hk.2) (.int .i64 r7)) (fun _ hk => hk.2) (.slice A7 r8.length c7)) (fun _ hk => hk.2) (.int .i64 r9)) (fun _ hk => hk.2) (.int .u32 r10)) (fun _ _ => trivial), (below_set (below_set (below_set (below_set (below_set (below_set (below_set (below_set (below_set (below_set HB2.out (Nat.le_succ _)) (Nat.le_succ _)) (Nat.le_succ _)) (Nat.le_succ _)) (Nat.le_succ _)) (Nat.le_succ _)) (Nat.le_succ _)) (Nat.le_succ _)) (Nat.le_succ _)) (Nat.le_succ _))⟩

end Go.Proofs.YtjoncjnmhhimhaaDoor.Hand
end

section
/- params.ByOID: the closure, whose captured variable is a slice, and the function. -/
namespace Go.Proofs.YtjoncjnmhhimhaaDoor.Hand
set_option linter.unusedVariables false
set_option linter.unusedSimpArgs false
open Go.RowKit Go.Proofs.YtjoncjnmhhimhaaDoorW.PrintWords Go.Proofs.YtjoncjnmhhimhaaDoorW.PrintLast Go.Proofs.YtjoncjnmhhimhaaDoorW.PrintMore

def pOid (l : List Int) (a : Int) : Bool := decide ((rowOf a).2.2.2.2.2.2.2.1 = l)
set_option maxHeartbeats 4000000 in
set_option maxRecDepth 100000 in
theorem oid_holds (A1 : Option Addr) (c1 : Nat) (l1 : List Int) (hc1 : l1.length ≤ c1) (G : Nat) : Holds 51 #[.pointer (some ⟨G, 0, none⟩)] (pOid l1) (fun W => Boxed W G 23 (.slice A1 l1.length c1) ∧ Kd.C (Kd.int .u32) W A1 l1.length l1) where
  enters := fun args W => enters_ Tryd.func51 (by kernel_rfl) rfl args W
  keeps := fun W W' h hb => ⟨(hb.block G h.1.lt).trans h.1, Kd.C_below h.2 hb⟩
  says := by
    intro a r1 r2 r3 r4 r5 r6 r7 r8 r9 r10 A7 c7 W hrow hC hc7 hI
    have hp : pOid l1 a = decide (r8 = l1) := by unfold pOid rowOf; rw [hrow]; rfl
    have hcell := hI.1.cell
    rw [hp]
    clear hp hrow
    obtain ⟨b, hb⟩ : ∃ b, b = decide (r8 = l1) := ⟨_, rfl⟩
    have HQ := Lib.hid (fun W (h0 : Kd.C (Kd.int .u32) W A7 r8.length r8) (h1 : Kd.C (Kd.int .u32) W A1 l1.length l1) => slices_Equal_uint32_uint32.calls A7 c7 r8 A1 c1 l1 b W h0 hc7 h1 hc1 (by unfold slices_Equal_uint32_uint32.f; rw [hb]))
    rw [← hb]
    have HC := Lib.hid hC
    have HI := Lib.hid hI
    clear hb hC
    have hal : ∀ o, (W.alloc o).cell? ⟨G, 0, none⟩ = some (.slice A1 l1.length c1) := fun o => (hI.1.alloc o).cell
    clear hI
    refine calls_of_args (args' := #[.agg #[.int .i64 r1, .int .i64 r2, .string r3, .int .i64 r4, .int .i64 r5, .int .i64 r6, .int .i64 r7, .slice A7 r8.length c7, .int .i64 r9, .int .u32 r10], .pointer (some ⟨G, 0, none⟩)]) rfl ?_
    go_enter Tryd.func51, Tryd.ntmps51
    go_wp2_with fail
    refine (HQ.out _ (Kd.C_alloc HC.out _) (Kd.C_alloc HI.out.2 _)).mono ?_
    rintro e w2 ⟨rfl, ⟨nd, rfl⟩⟩
    go_wp2
    go_ret
    exact ⟨rfl, pw_below_drewN (below_alloc (Below.refl _ _) _) nd⟩

def params_ByOID.f (l0 : List Int) : Option (List Int) := some (lst (pOid l0) 25)
set_option maxHeartbeats 4000000 in
set_option maxRecDepth 100000 in
theorem params_ByOID.calls (A0 : Option Addr) (c0 : Nat) (l0 : List Int) (r : List Int) (w : World) (HLd : LaidOk w) (hr0 : Kd.C (Kd.int .u32) w A0 l0.length l0) (hc0 : l0.length ≤ c0) (h : params_ByOID.f l0 = some r) :
    Calls Tryd.prog 30 #[.slice A0 l0.length c0] w fun e w' => ∃ v0_ : Value, e = .returned (v0_) ∧ Kd.R (Kd.int .i64) 3 w' w.heap.size (fun _ => True) v0_ r ∧ Below w.heap.size w w' := by
  obtain rfl := Option.some.inj h
  clear h
  have HD := Lib.hid HLd
  have HR := Lib.hid hr0
  clear HLd hr0
  go_enter Tryd.func30, Tryd.ntmps30
  go_wp2_with fail
  have b1 : Boxed (w.alloc (.cells #[.slice A0 l0.length c0] 23)) w.heap.size 23 (.slice A0 l0.length c0) := Boxed.new w 23 (.slice A0 l0.length c0)
  have HB0 : Below w.heap.size w (w.alloc (.cells #[.slice A0 l0.length c0] 23)) := below_alloc (Below.refl _ _) _
  have HC0 := Kd.C_alloc HR.out (.cells #[.slice A0 l0.length c0] 23)
  generalize w.alloc (.cells #[.slice A0 l0.length c0] 23) = W0 at *
  refine (list_any _ _ (pOid l0) _ (oid_holds A0 c0 l0 hc0 w.heap.size) W0 (HD.out.below HB0) ⟨b1, HC0⟩).mono ?_
  rintro e w2 ⟨v0, rfl, hR, hB⟩
  obtain ⟨Al, cl, el⟩ := Kd.R_slice hR
  subst el
  have HB2 := Lib.hid (HB0.trans (hB.mono HB0.size))
  have HR2 := Lib.hid (Kd.R_lower hR HB0.size)
  clear hR hB HB0 b1 HC0
  go_wp2
  go_ret
  exact ⟨_, rfl, HR2.out, HB2.out⟩
end Go.Proofs.YtjoncjnmhhimhaaDoor.Hand
end

section
/- pyxlaw13.awake returns true: the one path that the fixed examples take. -/
namespace Go.Proofs.YtjoncjnmhhimhaaDoor.Hand
set_option linter.unusedVariables false
set_option linter.unusedSimpArgs false
open Go.RowKit Go.Proofs.YtjoncjnmhhimhaaDoorW.PrintWords Go.Proofs.YtjoncjnmhhimhaaDoorW.PrintLast Go.Proofs.YtjoncjnmhhimhaaDoorW.PrintMore

def pyxlaw13_awake.f : Option Bool := some true
theorem aw_get5 : params_Get.f 5 = some (5, 2, ⟨#[77, 76, 45, 68, 83, 65, 45, 54, 53]⟩, 1952, 4032, 32, 3309, [2, 16, 840, 1, 101, 3, 4, 3, 18], -49, 0, true) := by kernel_rfl
theorem aw_get26 : params_Get.f 26 = some parNone := by kernel_rfl
theorem aw_name : params_ByName.f ⟨#[77, 76, 45, 68, 83, 65, 45, 54, 53]⟩ = some (5, 2, ⟨#[77, 76, 45, 68, 83, 65, 45, 54, 53]⟩, 1952, 4032, 32, 3309, [2, 16, 840, 1, 101, 3, 4, 3, 18], -49, 0, true) := by kernel_rfl
theorem aw_size : params_BySize.f 2 3309 = some [5] := by kernel_rfl
theorem aw_oid : params_ByOID.f [] = some [] := by kernel_rfl
set_option maxHeartbeats 4000000 in
set_option maxRecDepth 100000 in
theorem pyxlaw13_awake.calls (r : Bool) (w : World) (HLd : LaidOk w) (h : pyxlaw13_awake.f = some r) :
    Calls Tryd.prog 24 #[] w fun e w' => e = .returned (.bool r) ∧ Below w.heap.size w w' := by
  obtain rfl := Option.some.inj h
  clear h
  have HD := Lib.hid HLd
  clear HLd
  go_enter Tryd.func24, Tryd.ntmps24
  go_wp2_with fail
  refine (params_Get.calls 5 _ _ _ _ _ _ _ _ _ _ _ _ HD.out aw_get5).mono ?_
  rintro e w1 ⟨v1, rfl, hR1, hB1⟩
  obtain ⟨A1, c1, e1⟩ := Kd.R_slice hR1
  subst e1
  have HB1 := Lib.hid hB1
  clear hB1 hR1
  go_wp2_with fail
  refine (params_Get.calls 26 _ _ _ _ _ _ _ _ _ _ _ _ (HD.out.below (by repeat (first | exact HB1.out | apply below_alloc | apply pw_below_drewN | apply below_drew1))) aw_get26).mono ?_
  rintro e w2 ⟨v2, rfl, hR2, hB2⟩
  have bs2 := blk_below (blk_new w1 _) hB2
  have HB2 := Lib.hid ((below_alloc HB1.out _).trans (hB2.mono (below_alloc HB1.out _).size))
  have BS2 := Lib.hid bs2
  obtain ⟨A2, c2, e2⟩ := Kd.R_slice hR2
  subst e2
  clear hB2 hR2 bs2
  go_wp2_with fail
  refine (params_ByName.calls _ _ _ _ _ _ _ _ _ _ _ _ _ (HD.out.below (by repeat (first | exact HB2.out | apply below_alloc | apply pw_below_drewN | apply below_drew1))) aw_name).mono ?_
  rintro e w3 ⟨v3, rfl, hR3, hB3⟩
  obtain ⟨A3, c3, e3⟩ := Kd.R_slice hR3
  subst e3
  have bs3 := blk_below (blk_alloc BS2.out _) hB3
  have HB3 := Lib.hid ((below_alloc HB2.out _).trans (hB3.mono (below_alloc HB2.out _).size))
  have bn3 := blk_new w3 (.cells #[.int .i64 5, .int .i64 2, .string ⟨#[77, 76, 45, 68, 83, 65, 45, 54, 53]⟩, .int .i64 1952, .int .i64 4032, .int .i64 32, .int .i64 3309, .slice A3 9 c3, .int .i64 (-49), .int .u32 0] 37)
  have bs3' := blk_alloc bs3 (.cells #[.int .i64 5, .int .i64 2, .string ⟨#[77, 76, 45, 68, 83, 65, 45, 54, 53]⟩, .int .i64 1952, .int .i64 4032, .int .i64 32, .int .i64 3309, .slice A3 9 c3, .int .i64 (-49), .int .u32 0] 37)
  have hc : ∀ k, _ := fun k => blk_cell bs3' k
  have hn : ∀ k, _ := fun k => blk_cell bn3 k
  have x2 := hc 2
  have x3 := hc 3
  have x4 := hc 4
  have x5 := hc 5
  have x6 := hc 6
  have n0 := hn 0
  simp at x2 x3 x4 x5 x6 n0
  have BS3 := Lib.hid bs3'
  have BN3 := Lib.hid bn3
  clear hc hn bs3 bs3' bn3 hB3 hR3
  go_wp2_with fail
  have HB3' : Hid (Below w.heap.size w (w3.alloc (.cells #[.int .i64 5, .int .i64 2, .string ⟨#[77, 76, 45, 68, 83, 65, 45, 54, 53]⟩, .int .i64 1952, .int .i64 4032, .int .i64 32, .int .i64 3309, .slice A3 9 c3, .int .i64 (-49), .int .u32 0] 37))) := Lib.hid (below_alloc HB3.out _)
  refine (params_BySize.calls 2 3309 [5] _ (HD.out.below HB3'.out) aw_size).mono ?_
  rintro e w4 ⟨v4, rfl, hR4, hB4⟩
  obtain ⟨A4, c4, e4⟩ := Kd.R_slice hR4
  subst e4
  have HB4 := Lib.hid (HB3'.out.trans (hB4.mono HB3'.out.size))
  have HR4 := Lib.hid (Kd.R_reads' hR4)
  clear hR4 hB4 x2 x3 x4 x5 x6 n0 BS3 BN3
  go_wp2_with fail
  have hl5 := Kd.C_of_reads (h1 := fun _ => rfl) (readsInt_of.1 ((own_reads (own_lit w4 w4.heap.size 3 .i64 [5] (Nat.le_refl _) (by decide))).elim fun A h => by obtain ⟨c, hv, hr⟩ := h; cases hv; exact hr))
  have HL5 := Lib.hid hl5
  clear hl5
  refine (slices_Equal_int_int.calls A4 c4 [5] (some ⟨w4.heap.size, 0, none⟩) 1 [5] true _ (Kd.C_below HR4.out.2.2 (below_alloc (Below.refl _ _) _)) HR4.out.2.1 HL5.out (by decide) (by unfold slices_Equal_int_int.f; rfl)).mono ?_
  rintro e w5 ⟨rfl, ⟨nd5, rfl⟩⟩
  have HB5 := Lib.hid (pw_below_drewN (below_alloc HB4.out (.cells #[.int .i64 5] 3)) nd5)
  clear HL5 HR4 HB4
  go_wp2_with fail
  refine (params_ByOID.calls none 0 [] [] _ (HD.out.below HB5.out) (Kd.C_nil _ _) (Nat.le_refl _) aw_oid).mono ?_
  rintro e w6 ⟨v6, rfl, hR6, hB6⟩
  obtain ⟨A6, c6, e6⟩ := Kd.R_slice hR6
  subst e6
  have HB6 := Lib.hid (HB5.out.trans (hB6.mono HB5.out.size))
  clear hR6 hB6 HB5
  go_wp2
  go_ret
  exact ⟨rfl, HB6.out⟩
end Go.Proofs.YtjoncjnmhhimhaaDoor.Hand
end
