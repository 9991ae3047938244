/- Texts of one proof, one behind the other. -/
import Derived.Test.YtjoncjnmhhimhaaDoorProg
import Derived.Below
import Derived.Lib.LaidTab
import Derived.Lib.ItoaNum
import Derived.Test.YtjoncjnmhhimhaaDoorWWords
import Derived.Test.YtjoncjnmhhimhaaDoorRows
import Derived.WalkKit
import Derived.ProofKit
import Derived.LaidMore
import Derived.OpenShut
import Derived.Stop.LaidErr
import Derived.Shelf.Vars
import Derived.SizedLaws
import Derived.Lib.Join
import Derived.Lib.SplitLaws
import Derived.Lib.ParseIntB
import Derived.Deep.Draws
import Derived.Deep.AppendLies
import Derived.Maps.AppendAt
import Derived.OwnWalk
import Derived.Laws.BytesArg
import Derived.Laws.MakeOwn
import Derived.Laws.OwnMore
import Derived.Deep.OwnRows
import Derived.Tactics
import Derived.Lib.ConvBytes
import Derived.Laws.Slices
import Derived.KernelRfl
import Derived.RowKit3
import Derived.Deep.LoopGhost
import Derived.Deep.QuietTactic
import Derived.BigQuiet
import Derived.WideLaws
import Derived.Deep.DeepCutAuto
import Derived.Deep.CutBlock
import Derived.Deep.RegionHeld3
import Derived.Laws.Rows
import Derived.Lib.AppendStr
import Derived.ArgAppend
import Derived.Laws.IdiomCopy
import Derived.OrdersHeld
import Derived.Laws.BitsLemmas
import Derived.RowKit
import Derived.Test.YtjoncjnmhhimhaaDoorWMore
import Derived.Test.YtjoncjnmhhimhaaDoorWGuard
import Derived.Test.YtjoncjnmhhimhaaDoorWRepsOne
import Derived.Test.YtjoncjnmhhimhaaDoorWTab
import Derived.Shelf.Strings.Builder1
import Derived.Shelf.Strings.Builder2
import Derived.Shelf.Strings.OnBuilder
import Derived.Shelf.Utf8.RuneCount
import Derived.Shelf.Strconv.Itoa0
import Derived.Shelf.Strconv.Itoa1
import Derived.Shelf.LaysM
import Derived.Shelf.Strconv.Itoa2
import Derived.Shelf.Strconv.Itoa3
import Derived.Ground.MpProg
import Derived.Shelf.Pu.ParseUintPublic10
import Derived.Shelf.Pu.ErrVarParseUint
import Derived.Shelf.Strings.Search1
import Derived.Shelf.Strings.Search2
import Derived.Shelf.Strings.Search3
import Derived.Shelf.Strings.Count
import Derived.Shelf.Strings.Shaped
import Derived.Shelf.Strings.Split
import Derived.Shelf.Strings.SplitShaped
import Derived.Shelf.Unicode.Decode
import Derived.Shelf.Strings.RuneCount
import Derived.Shelf.Strings.Explode
import Derived.Shelf.Unicode.DecodeSlow
import Derived.Shelf.Unicode.DecodeAny
import Derived.Shelf.Slices.Equal
import Derived.Shelf.Slices.Empties2
import Derived.Ground.SlgfProg
import Derived.Shelf.SlicesE.IndexFunc
import Derived.Test.YtjoncjnmhhimhaaDoorWLast
import Derived.BigCall
import Derived.BigGuard
import Derived.Lib.AppendIntMem
import Derived.Lib.AtoiErrMem
section
/- What the contracts of this place ask of the library's own variables, and that it lasts. -/
namespace Go.Proofs.YtjoncjnmhhimhaaDoor.Hand
set_option linter.unusedVariables false
set_option linter.unusedSimpArgs false
open Go.RowKit Go.Proofs.YtjoncjnmhhimhaaDoorW.PrintWords

theorem var_keep {P : Program} {w w' : World} {n : String} {cs : Array Value} (h : Below w.heap.size w w') (hv : w.var? P n = some cs) : w'.var? P n = some cs := by
  unfold World.var? at hv ⊢
  cases hg : P.globalNamed n with
  | none => rw [hg] at hv; cases hv
  | some g =>
    rw [hg] at hv
    simp only [Option.bind_some] at hv ⊢
    have hlt : g < w.heap.size := by
      rcases Nat.lt_or_ge g w.heap.size with h1 | h1
      · exact h1
      · rw [Array.getElem?_eq_none h1] at hv; cases hv
    rw [h.block g hlt]
    exact hv

/-- The library's variables that are read hold what the program's text lays. -/
structure LaidOk (w : World) : Prop where
  max : ∃ m : Int, w.cell? ⟨3, 0, none⟩ = some (.int .i64 m)
  pow : Lib.TabIs Tryd.prog w "internal/strconv.uint64pow10" .u64 Lib.pow10Tab
  syn : ∃ tp p, w.var? Tryd.prog "strconv.ErrSyntax" = some #[.iface tp p]
  rng : ∃ tp p, w.var? Tryd.prog "strconv.ErrRange" = some #[.iface tp p]
theorem LaidOk.below {w w' : World} (h : LaidOk w) (hb : Below w.heap.size w w') : LaidOk w' := by
  obtain ⟨⟨m, h1⟩, h2, ⟨a, b, h3⟩, ⟨c, d, h4⟩⟩ := h
  exact ⟨⟨m, pw_cell_below hb h1⟩, var_keep hb h2, ⟨a, b, var_keep hb h3⟩, ⟨c, d, var_keep hb h4⟩⟩
theorem LaidOk.drewN {w : World} (h : LaidOk w) (n : Nat) : LaidOk (w.drewN n) := h.below (pw_below_drewN (Below.refl _ _) n)
theorem LaidOk.drew {w : World} (h : LaidOk w) : LaidOk w.drew := h.below (Below.refl _ _).drew
theorem LaidOk.alloc {w : World} (h : LaidOk w) (o : Obj) : LaidOk (w.alloc o) := h.below (below_alloc (Below.refl _ _) o)
theorem LaidOk.drawn {w w' : World} (h : LaidOk w) (hd : Drawn0 w w') : LaidOk w' := by
  obtain ⟨n, rfl⟩ := hd
  exact h.drewN n

theorem add_plain' (g o j : Nat) : (⟨g, o, none⟩ : Addr).add j = ⟨g, o + j, none⟩ := by unfold Addr.add; split <;> simp_all
/-- A slice of numbers that is read, not empty: its cells. -/
theorem C_ints {k : IntKind} {w : World} {A : Option Addr} {l : List Int} (h : Kd.C (Kd.int k) w A l.length l) (h0 : 0 < l.length) :
    ∃ b off, A = some ⟨b, off, none⟩ ∧ l.length ≤ 9223372036854775807 ∧ ∀ j, j < l.length → w.cell? ⟨b, off + j, none⟩ = some (.int k (l[j]!)) := by
  obtain ⟨_, h2, h3⟩ := Kd.reads_of_C (d := (0 : Int)) h
  obtain ⟨ad, e, hc⟩ := h3 h0
  subst e
  obtain ⟨b, off, spot⟩ := ad
  have hspot : spot = none := by simpa [Addr.add] using World.cell?_spot (hc 0 h0)
  subst hspot
  refine ⟨b, off, rfl, h2, fun j hj => ?_⟩
  have := hc j hj
  rw [add_plain'] at this
  rw [this]
  simp [List.getD, hj]

theorem C_intsD {k : IntKind} {w : World} {A : Option Addr} {l : List Int} (h : Kd.C (Kd.int k) w A l.length l) (h0 : 0 < l.length) :
    ∃ b off, A = some ⟨b, off, none⟩ ∧ l.length ≤ 9223372036854775807 ∧ ∀ j, j < l.length → w.cell? ⟨b, off + j, none⟩ = some (.int k (l.getD j 0)) := by
  obtain ⟨b, off, e, h2, hc⟩ := C_ints h h0
  refine ⟨b, off, e, h2, fun j hj => ?_⟩
  rw [hc j hj]
  simp [List.getD, hj]

end Go.Proofs.YtjoncjnmhhimhaaDoor.Hand
end

section
/- What all rows of this seat share: the start in which the listed variables lie as the program's text lays them, and what the rows' condition gives to the walks. After the guide's worked text on a listed map. -/
namespace Go
set_option linter.unusedVariables false
set_option linter.unusedSimpArgs false
variable {H : Type} {enc : TypeId × Value → H}
/-- The wrap with a condition on the world and the world's shape, both handed on. -/
theorem Tryd.returns_laid_shaped {a : Assume} {C : Checked} {os : Os} {f : FuncId} {fn : Func} {s : ChangeSpec} {conds : List PathCond} {apart fresh handsOn again : Bool} {X : World → Array Value → Prop}
    (hX : ∀ (w w' : World) (args : Array Value), w.heap = w'.heap → X w args → X w' args)
    (own : ownKnob C.prog.godebug = none) (started : os.Started) (noInit : C.prog.inits.idxOf? f = none) (hfn : C.prog.funcs[f]? = some fn)
    (witness : ∃ (w : World) (tape : Tape) (i : Input), w.os = os ∧ (w.forCall tape i).Shaped C.prog ∧ i.vars = [] ∧ Input.okWide C.prog (w.forCall tape i) .any w.heap.size f i ∧
      ((s.pre enc C.prog fn conds apart (w.forCall tape i).memory i.args ∧ X (w.forCall tape i).memory i.args) ∧ sizedMet enc C.prog fn (OpenSpec.ofChange s) apart (w.forCall tape i).memory i.args) ∧ a.holds C.prog (lone (Frame.enter C.prog f i.args .normal) [] (w.forCall tape i)))
    (contract : ∀ (W : World) (base : Nat) (args : Array Value) (ds gs : List (DataW H)) (before : List MemPlace),
      (∀ (j : Nat) t v, fn.params[j]? = some t → args[j]? = some v → Value.okWide C.prog W .any base t v) →
      DataW.Whole enc C.prog fn.params.toList s.vars apart W args.toList ds gs before →
      conds.all (PathCond.test C.prog ⟨fn.params.toList, ds, s.plain.varTypes C.prog, gs⟩) = true →
      (DataW.weightsEach C.prog (fn.params.toList ++ s.plain.varTypes C.prog) (ds ++ gs)).all (· ≤ reachBytes) = true → X W args →
      W.ShapedOpen C.prog →
      a.holds C.prog (lone (Frame.enter C.prog f args .normal) [] W) →
      Calls C.prog f args W fun e W' => ∃ v, e = .returned v ∧ s.post enc C.prog fn apart fresh handsOn again W args v W') :
    ReturnsInHanded a C os f .any (fun w args => (s.pre enc C.prog fn conds apart w args ∧ X w args) ∧ sizedMet enc C.prog fn (OpenSpec.ofChange s) apart w args) (s.post enc C.prog fn apart fresh handsOn again) := by
  refine returnsInHanded_of_calls own started noInit witness ?_
  intro w tape i _ hsh _ hok hpre hholds
  obtain ⟨_, _, _, fn', hfn', _, _, _, _, hval⟩ := hok
  have e : fn' = fn := Option.some.inj (hfn'.symm.trans hfn)
  subst e
  obtain ⟨⟨⟨ds, gs, before, hw, hc⟩, hx⟩, hz⟩ := hpre
  have hw' := DataW.Whole.of_heap (w' := w.forCall tape i) (by rfl) hw
  refine (contract (w.forCall tape i) w.heap.size i.args ds gs before hval hw' hc (hz.weights hw) (hX _ _ _ (by rfl) hx) hsh hholds).mono fun e W' ⟨v, he, hp⟩ => ?_
  subst he
  exact ChangeSpec.post_blind hp
end Go
namespace Go.Proofs.YtjoncjnmhhimhaaDoor.Row
open Go Go.Proofs.YtjoncjnmhhimhaaDoor.Hand Go.RowKit

theorem own : ownKnob Tryd.prog.godebug = none := by kernel_rfl
theorem laidOut : laidOutB Tryd.prog = true := by kernel_rfl
def laidL : List (String × DataW Unit) := Rows.oidParsesRow.laid

set_option maxRecDepth 100000 in
/-- The start: the heap that the program's own initialisers leave, the library's great table in its place. -/
noncomputable def startW (os : Os) : World :=
  let w := World.doorLaid Tryd.prog 72 os
  { w with heap := w.heap.setIfInBounds 4 (.cells (Pinned.utf8FirstZ.map fun (n : Nat) => Value.int .u8 (n : Int)).toArray 126) }

set_option maxRecDepth 100000 in
theorem door_met (os : Os) (args : Array Value) : laidMetH Tryd.prog laidL ((startW os).forCall (fun _ _ => 0) ⟨#[], args, []⟩).memory :=
  laidMetH_of_parts3 (fuel := 8) (laidMet_of_run' 8 (by kernel_rfl) (by kernel_rfl)) (by kernel_rfl) (by kernel_rfl)

set_option maxRecDepth 100000 in
theorem startShaped (os : Os) (args : Array Value) : ((startW os).forCall (fun _ _ => 0) ⟨#[], args, []⟩).Shaped Tryd.prog :=
  World.shaped_of_RefB (by kernel_rfl) (by kernel_rfl)

end Go.Proofs.YtjoncjnmhhimhaaDoor.Row
end

section
/- From the rows' condition to what the walks ask. -/
namespace Go.Proofs.YtjoncjnmhhimhaaDoor.Row
set_option linter.unusedVariables false
set_option linter.unusedSimpArgs false
open Go Go.Proofs.YtjoncjnmhhimhaaDoor.Hand Go.RowKit

theorem gErrR : Tryd.prog.globalNamed "strconv.ErrRange" = some 1 := by kernel_rfl
theorem gErrS : Tryd.prog.globalNamed "strconv.ErrSyntax" = some 0 := by kernel_rfl
theorem gPow : Tryd.prog.globalNamed "internal/strconv.uint64pow10" = some 2 := by kernel_rfl
theorem tErrR : (Tryd.prog.globals[1]?).map (·.type) = some 63 := by kernel_rfl
theorem tErrS : (Tryd.prog.globals[0]?).map (·.type) = some 63 := by kernel_rfl
theorem tPow : (Tryd.prog.globals[2]?).map (·.type) = some 116 := by kernel_rfl
theorem cPow : Tryd.prog.cellsOf 116 = 20 := by kernel_rfl
theorem cU64 : Tryd.prog.cellsOf 61 = 1 := by kernel_rfl
theorem cStr : Tryd.prog.cellsOf 9 = 1 := by kernel_rfl
theorem cErr : Tryd.prog.cellsOf 124 = 1 := by kernel_rfl
theorem powData : (Rows.laid_internal_strconv_uint64pow10 : DataW Unit) = Lib.tabData .u64 Lib.pow10Tab := by kernel_rfl
theorem star : "*" ++ "errors.errorString" = "*errors.errorString" := by decide
theorem rowErr (u : TypeId) (h : Tryd.prog.typeName? 3 u = some "*errors.errorString") : u = 122 :=
  typeName_ptr_named (nm := "errors.errorString") (by rw [star]; kernel_rfl) (by kernel_rfl) (by decide) u (by rw [star]; exact h)

/-- FROM THE ROWS' CONDITION TO WHAT THE WALKS ASK. -/
theorem laid_of {W : World} (hL0 : laidMetH Tryd.prog laidL W) (hsh : W.ShapedOpen Tryd.prog) : LaidOk W := by
  have hL := hL0
  rw [MakeChecks.laidMetH_plain _ _ _ (by kernel_rfl)] at hL
  have h1 : laidMet Tryd.prog (("internal/strconv.uint64pow10", Lib.tabData .u64 Lib.pow10Tab) :: laidL.drop 3) W := by
    rw [← powData]
    exact hL.tail.tail
  have hR : laidMet Tryd.prog (laidL.drop 4) W := hL.tail.tail.tail.tail
  have hS : laidMet Tryd.prog (laidL.drop 5) W := hR.tail
  refine ⟨?_, Lib.tabIs_of_head gPow tPow Tryd.underlying116 Tryd.underlying61 cU64 cPow h1, ?_, ?_⟩
  · exact cell_of_shapedOpen_int hsh (g := 3) (t := 3) (zero := #[.int .i64 0]) (of_decide_eq_true (by kernel_rfl)) (by kernel_rfl) rfl (by kernel_rfl) (by kernel_rfl) Tryd.underlying3
  · obtain ⟨a, s, hv, _⟩ := laid_sentinel hS gErrS tErrS Tryd.underlying63 rowErr Tryd.underlying122 Tryd.underlying124 rfl rfl Tryd.underlying9 cErr cStr
    exact ⟨_, _, hv⟩
  · obtain ⟨a, s, hv, _⟩ := laid_sentinel hR gErrR tErrR Tryd.underlying63 rowErr Tryd.underlying122 Tryd.underlying124 rfl rfl Tryd.underlying9 cErr cStr
    exact ⟨_, _, hv⟩

end Go.Proofs.YtjoncjnmhhimhaaDoor.Row
end

section
/- Plain facts on object identifiers: what the text of an identifier is, which strings are texts, and that reading a text is unique. No program in sight. -/
namespace Go.Proofs.YtjoncjnmhhimhaaDoor.Oid
set_option linter.unusedVariables false
set_option linter.unusedSimpArgs false
open Go.Lib

/-- A list is an identifier. -/
def validB (l : List Int) : Bool :=
  decide (2 ≤ l.length) && decide (l.length ≤ 20) && decide (l.getD 0 0 ≤ 2) && (decide (2 ≤ l.getD 0 0) || decide (l.getD 1 0 < 40)) && l.all (fun n => decide (n < 4294967216))
/-- The text of a list. -/
def textL (l : List Int) : List UInt8 := Lib.join (l.map fun n => decDigits n.toNat) [46]
def textB (l : List Int) : ByteArray := if validB l then ⟨(textL l).toArray⟩ else ⟨#[]⟩
/-- The words of a text. -/
def wordsB (s : ByteArray) : List ByteArray := splitB ⟨#[46]⟩ 0 (countB s ⟨#[46]⟩) s
/-- The program's loop over the words. -/
def parseLoop : List ByteArray → List Int → Option (List Int)
  | [], out => some out
  | w :: ws, out =>
    match parseUintB 32 w.data.toList with
    | .ok u => if 20 < out.length then none else parseLoop ws (out ++ [(u : Int)])
    | _ => none
def parseB (s : ByteArray) : List Int × Bool :=
  match parseLoop (wordsB s) [] with
  | some out => if textB out = s ∧ validB out = true then (out, true) else ([], false)
  | none => ([], false)

/-! ### Decimal numbers -/
def isDig (c : UInt8) : Bool := decide (48 ≤ c.toNat) && decide (c.toNat ≤ 57)
def valL (acc : Nat) (l : List UInt8) : Nat := l.foldl (fun a c => a * 10 + (c.toNat - 48)) acc
theorem valL_nil (acc : Nat) : valL acc [] = acc := by rw [valL, List.foldl_nil]
theorem valL_cons (acc : Nat) (c : UInt8) (r : List UInt8) : valL acc (c :: r) = valL (acc * 10 + (c.toNat - 48)) r := by rw [valL, List.foldl_cons, valL]
theorem valL_append (a : List UInt8) : ∀ (acc : Nat) (b : List UInt8), valL acc (a ++ b) = valL (valL acc a) b := by
  induction a with
  | nil => intro acc b; rw [List.nil_append, valL_nil]
  | cons c r ih => intro acc b; rw [List.cons_append, valL_cons, valL_cons]; exact ih _ b
theorem valL_ge (l : List UInt8) : ∀ acc, acc ≤ valL acc l := by
  induction l with
  | nil => intro acc; rw [valL_nil]; exact Nat.le_refl _
  | cons c r ih => intro acc; rw [valL_cons]; exact Nat.le_trans (by omega) (ih (acc * 10 + (c.toNat - 48)))
theorem valL_mono (l : List UInt8) : ∀ a b, a ≤ b → valL a l ≤ valL b l := by
  induction l with
  | nil => intro a b h; rw [valL_nil, valL_nil]; exact h
  | cons c r ih => intro a b h; rw [valL_cons, valL_cons]; exact ih _ _ (by omega)
theorem u8 (n : Nat) (h : n < 256) : (UInt8.ofNat n).toNat = n := by
  have := UInt8.toNat_ofNat' (n := n)
  rw [this]; exact Nat.mod_eq_of_lt h
/-- A number as its digits: not empty, no zero ahead. -/
def Canon (w : List UInt8) : Prop := w ≠ [] ∧ (∀ c ∈ w, isDig c = true) ∧ (w.head? = some 48 → w.length = 1)
theorem dec_canon (n : Nat) : Canon (decDigits n) ∧ valL 0 (decDigits n) = n := by
  induction n using Nat.strongRecOn with
  | _ n ih =>
    by_cases h : n < 10
    · rw [decDigits, dif_pos h]
      refine ⟨⟨by simp, ?_, by simp⟩, ?_⟩
      · intro c hc
        simp only [List.mem_singleton] at hc
        subst hc
        have e : (UInt8.ofNat (48 + n)).toNat = 48 + n := u8 _ (by omega)
        simp only [isDig, e]; simp; omega
      · have e : (UInt8.ofNat (48 + n)).toNat = 48 + n := u8 _ (by omega)
        rw [valL_cons, valL_nil, e]; omega
    · rw [decDigits, dif_neg h]
      obtain ⟨⟨h1, h2, h3⟩, h4⟩ := ih (n / 10) (by omega)
      have e : (UInt8.ofNat (48 + n % 10)).toNat = 48 + n % 10 := u8 _ (by omega)
      refine ⟨⟨by simp, ?_, ?_⟩, ?_⟩
      · intro c hc
        rcases List.mem_append.1 hc with hc | hc
        · exact h2 c hc
        · simp only [List.mem_singleton] at hc
          subst hc
          simp only [isDig, e]; simp; omega
      · intro hh
        exfalso
        obtain ⟨x, r, hx⟩ : ∃ x r, decDigits (n / 10) = x :: r := by
          cases hd : decDigits (n / 10) with
          | nil => exact absurd hd h1
          | cons x r => exact ⟨x, r, rfl⟩
        rw [hx] at hh h3 h4
        simp only [List.cons_append, List.head?_cons, Option.some.injEq] at hh
        subst hh
        have hl := h3 rfl
        simp only [List.length_cons] at hl
        have : r = [] := List.eq_nil_of_length_eq_zero (by omega)
        subst this
        rw [valL_cons, valL_nil, show (48 : UInt8).toNat = 48 from rfl] at h4
        omega
      · rw [valL_append, h4]
        rw [valL_cons, valL_nil, e]
        omega
theorem canon_dec (w : List UInt8) (h : Canon w) : decDigits (valL 0 w) = w := by
  obtain ⟨h1, h2, h3⟩ := h
  induction hn : w.length using Nat.strongRecOn generalizing w with
  | _ n ih =>
    obtain ⟨v, c, rfl⟩ : ∃ v c, w = v ++ [c] := ⟨w.dropLast, w.getLast h1, (List.dropLast_concat_getLast h1).symm⟩
    have hc := h2 c (by simp)
    simp only [isDig, Bool.and_eq_true, decide_eq_true_eq] at hc
    have hcb : UInt8.ofNat (48 + (c.toNat - 48)) = c := by
      rw [show 48 + (c.toNat - 48) = c.toNat from by omega]; simp
    by_cases hv : v = []
    · subst hv
      rw [List.nil_append, valL_cons, valL_nil]
      rw [decDigits, dif_pos (by omega)]
      rw [show 48 + (0 * 10 + (c.toNat - 48)) = 48 + (c.toNat - 48) from by omega, hcb]
    · have hlen : 0 < v.length := List.length_pos_iff.2 hv
      obtain ⟨x, r, rfl⟩ : ∃ x r, v = x :: r := by
        cases v with
        | nil => exact absurd rfl hv
        | cons x r => exact ⟨x, r, rfl⟩
      have hx : x ≠ 48 := by
        intro e
        subst e
        have := h3 (by simp)
        simp at this
      have hxd := h2 x (by simp)
      simp only [isDig, Bool.and_eq_true, decide_eq_true_eq] at hxd
      have hx1 : 49 ≤ x.toNat := by
        rcases Nat.lt_or_ge x.toNat 49 with hl | hl
        · exfalso
          apply hx
          have : x.toNat = 48 := by omega
          exact UInt8.toNat_inj.1 this
        · exact hl
      have hv1 : 1 ≤ valL 0 (x :: r) := by
        have := valL_ge r (0 * 10 + (x.toNat - 48))
        rw [valL_cons]
        omega
      have hih := ih (x :: r).length (by rw [← hn]; simp) (x :: r) (by simp) (fun d hd => h2 d (by simp only [List.mem_append]; exact .inl hd)) (by simp [hx]) rfl
      rw [valL_cons] at hih hv1
      rw [valL_append, valL_cons, valL_cons, valL_nil]
      rw [decDigits, dif_neg (by omega)]
      rw [show (valL (0 * 10 + (x.toNat - 48)) r * 10 + (c.toNat - 48)) / 10 = valL (0 * 10 + (x.toNat - 48)) r from by omega, hih,
        show (valL (0 * 10 + (x.toNat - 48)) r * 10 + (c.toNat - 48)) % 10 = c.toNat - 48 from by omega, hcb]

theorem parseUintM_ok (M : Nat) (w : List UInt8) : ∀ acc u, parseUintM M acc w = .ok u → (∀ c ∈ w, isDig c = true) ∧ valL acc w = u ∧ (acc ≤ M → u ≤ M) := by
  induction w with
  | nil => intro acc u h; simp only [parseUintM] at h; injection h with h; subst h; exact ⟨by simp, by rw [valL_nil], fun h => h⟩
  | cons c r ih =>
    intro acc u h
    simp only [parseUintM] at h
    split at h
    · rename_i hd
      split at h
      · cases h
      · split at h
        · cases h
        · rename_i h1 h2
          obtain ⟨h3, h4, h5⟩ := ih _ _ h
          refine ⟨?_, by rw [valL_cons]; exact h4, fun _ => h5 (by omega)⟩
          intro x hx
          rcases List.mem_cons.1 hx with rfl | hx
          · simp [isDig, hd]
          · exact h3 x hx
    · cases h
theorem parseUintM_of (M : Nat) (hM : M < 18446744073709551616) (w : List UInt8) : ∀ acc, (∀ c ∈ w, isDig c = true) → valL acc w ≤ M → parseUintM M acc w = .ok (valL acc w) := by
  induction w with
  | nil => intro acc _ _; rw [valL_nil]; rfl
  | cons c r ih =>
    intro acc hd hm
    have hc := hd c (by simp)
    simp only [isDig, Bool.and_eq_true, decide_eq_true_eq] at hc
    have hg := valL_ge r (acc * 10 + (c.toNat - 48))
    rw [valL_cons] at hm
    simp only [parseUintM]
    rw [if_pos hc, if_neg (by omega), if_neg (by omega), ih _ (fun x hx => hd x (by simp [hx])) hm, valL_cons]

/-! ### Texts -/
theorem join_nil : Lib.join [] [46] = [] := rfl
theorem join_one (w : List UInt8) : Lib.join [w] [46] = w := by simp [Lib.join]
theorem join_cons (w v : List UInt8) (ws : List (List UInt8)) : Lib.join (w :: v :: ws) [46] = w ++ 46 :: Lib.join (v :: ws) [46] := by
  simp [Lib.join, List.intercalate]

/-- The words of a list of bytes, dots between them: 'cur' is what the word that is read begins with. -/
def splitL (cur : List UInt8) : List UInt8 → List (List UInt8)
  | [] => [cur]
  | c :: r => if c = 46 then cur :: splitL [] r else splitL (cur ++ [c]) r
theorem splitL_ne (r : List UInt8) : ∀ cur, splitL cur r ≠ [] := by
  induction r with
  | nil => intro cur; simp [splitL]
  | cons c r ih => intro cur; simp only [splitL]; split <;> simp [ih]
theorem join_splitL (r : List UInt8) : ∀ cur, Lib.join (splitL cur r) [46] = cur ++ r := by
  induction r with
  | nil => intro cur; simp [splitL, join_one]
  | cons c r ih =>
    intro cur
    simp only [splitL]
    split
    · rename_i h
      subst h
      cases hs : splitL [] r with
      | nil => exact absurd hs (splitL_ne r [])
      | cons v ws => rw [join_cons, ← hs, ih]; simp
    · rw [ih]; simp
theorem splitL_skip (w : List UInt8) (hw : ∀ c ∈ w, c ≠ 46) : ∀ cur r, splitL cur (w ++ r) = splitL (cur ++ w) r := by
  induction w with
  | nil => intro cur r; simp
  | cons c w ih =>
    intro cur r
    rw [List.cons_append, splitL, if_neg (hw c (by simp)), ih (fun x hx => hw x (by simp [hx]))]
    simp
theorem splitL_join (ws : List (List UInt8)) (h0 : ws ≠ []) (h : ∀ w ∈ ws, ∀ c ∈ w, c ≠ (46 : UInt8)) : splitL [] (Lib.join ws [46]) = ws := by
  induction ws with
  | nil => exact absurd rfl h0
  | cons w ws ih =>
    cases ws with
    | nil =>
      rw [join_one]
      have := splitL_skip w (h w (by simp)) [] []
      rw [List.append_nil] at this
      rw [this]
      simp [splitL]
    | cons v ws =>
      rw [join_cons, splitL_skip w (h w (by simp))]
      simp only [splitL, if_true, List.nil_append]
      rw [ih (by simp) (fun x hx => h x (by simp only [List.mem_cons] at hx ⊢; exact .inr hx))]

end Go.Proofs.YtjoncjnmhhimhaaDoor.Oid
end

section
/- What the functions of the package oid compute: the plain functions, and the contracts' names. -/
namespace Go.Proofs.YtjoncjnmhhimhaaDoor.Oid
set_option linter.unusedVariables false
set_option linter.unusedSimpArgs false
open Go.Lib

/-- The group of a number; 'mark' is laid on the last byte. -/
def grpL (n : Nat) (mark : Nat) : List Int :=
  if h : n < 128 then [((n % 128 + mark : Nat) : Int)] else grpL (n / 128) 128 ++ [((n % 128 + mark : Nat) : Int)]
termination_by n
decreasing_by omega
def contentL (l : List Int) : List Int := grpL (40 * (l.getD 0 0).toNat + (l.getD 1 0).toNat) 0 ++ (l.drop 2).flatMap fun n => grpL n.toNat 0
/-- The program's loop over the bytes of a content. -/
def readLoop : List Int → List Int → Int → Bool → Option (List Int × Bool)
  | [], out, _, op => some (out, op)
  | c :: r, out, n, op =>
    if (op = false ∧ c = 128) ∨ 20 < out.length then some (out, true)
    else if 4294967296 ≤ n then none
    else if 128 ≤ c then readLoop r out (n * 128 + c % 128) true
    else if 4294967296 ≤ n * 128 + c % 128 then none
    else if out = [] then readLoop r [min ((n * 128 + c % 128) / 40) 2, n * 128 + c % 128 - 40 * min ((n * 128 + c % 128) / 40) 2] 0 false
    else readLoop r (out ++ [n * 128 + c % 128]) 0 false
def readL (b : List Int) : List Int × Bool :=
  match readLoop b [] 0 false with
  | some (out, false) => if validB out then (out, true) else ([], false)
  | _ => ([], false)
end Go.Proofs.YtjoncjnmhhimhaaDoor.Oid
namespace Go.Proofs.YtjoncjnmhhimhaaDoor.Hand
open Go.Proofs.YtjoncjnmhhimhaaDoor.Oid
def oid_Valid.f (l0 : List Int) : Option Bool := some (validB l0)
def oid_Text.f (l0 : List Int) : Option ByteArray := if (l0.all fun x => decide (0 ≤ x)) = true then some (textB l0) else none
def oid_Parse.f (a0 : ByteArray) : Option (List Int × Bool) := if a0.size < 4294967281 then some (parseB a0) else none
def oid_Content.f (l0 : List Int) : Option (List Int) := if (l0.all fun x => decide (0 ≤ x)) = true then some (if validB l0 = true then contentL l0 else []) else none
def oid_Read.f (l0 : List Int) : Option (List Int × Bool) := if l0.length ≤ 140737488355328 ∧ (l0.all fun x => decide (0 ≤ x) && decide (x < 256)) = true then some (readL l0) else none
end Go.Proofs.YtjoncjnmhhimhaaDoor.Hand
end

section
/- An array of bools by its number, the lowest bit first. -/
namespace Go.Proofs.YtjoncjnmhhimhaaDoor.Hand
def bv (n m : Nat) : Array Bool := ((List.range n).map fun i => m.testBit i).toArray
end Go.Proofs.YtjoncjnmhhimhaaDoor.Hand
end

section
-- Written by the kit's print.py, driven by this place's wip/tools/myprint.py. Not trusted: Lean checks it.
namespace Go.Proofs.YtjoncjnmhhimhaaDoor.PRef9V
open Go.RowKit Go.Proofs.YtjoncjnmhhimhaaDoor.Hand Go.Proofs.YtjoncjnmhhimhaaDoorW.PrintWords Go.Proofs.YtjoncjnmhhimhaaDoorW.PrintLast Go.Proofs.YtjoncjnmhhimhaaDoorW.PrintMore
attribute [local go_sem] max2_int min2_int max_two min_two max_three min_three max_four min_four   -- for this text's walks alone
set_option linter.unusedVariables false
set_option linter.unusedSimpArgs false



def errW : Option Int → Value
  | none => .nilIface
  | some c => .iface 0 (.int .i64 c)
theorem errW_none : errW none = .nilIface := rfl
theorem errW_some (c : Int) : errW (some c) = .iface 0 (.int .i64 c) := rfl

-- the values' own types

end Go.Proofs.YtjoncjnmhhimhaaDoor.PRef9V
namespace Go.Proofs.YtjoncjnmhhimhaaDoor.PRef9V
open Go.RowKit Go.Proofs.YtjoncjnmhhimhaaDoor.Hand Go.Proofs.YtjoncjnmhhimhaaDoorW.PrintWords Go.Proofs.YtjoncjnmhhimhaaDoorW.PrintLast Go.Proofs.YtjoncjnmhhimhaaDoorW.PrintMore
attribute [local go_sem] max2_int min2_int max_two min_two max_three min_three max_four min_four   -- for this text's walks alone
set_option linter.unusedVariables false
set_option linter.unusedSimpArgs false

/-! ### pyxref09_Valid: function 23 -/
mutual
def pyxref09_Valid.j0 : Nat → List Int → Bool → Option (Bool)
  | 0, _, _ => none
  | k + 1, x0, x29 => if x29 = true then (some false) else (pyxref09_Valid.l0 k x0 0)
def pyxref09_Valid.l0 : Nat → List Int → Int → Option (Bool)
  | 0, _, _ => none
  | k + 1, x0, x3 => if x3 < (x0.length : Int) then (if 0 ≤ x3 then (if (rd x0 x3) ≥ 4294967216 then (some false) else (pyxref09_Valid.l0 k x0 (wrap64 (x3 + 1)))) else (none)) else (some true)
end
def pyxref09_Valid.f (k : Nat) (l0 : List Int) : Option (Bool) := if (l0.length : Int) < 2 then (pyxref09_Valid.j0 k l0 true) else (if (l0.length : Int) > 20 then (pyxref09_Valid.j0 k l0 true) else (if 0 < (l0.length : Int) then (if (rd l0 0) > 2 then (pyxref09_Valid.j0 k l0 true) else (if (rd l0 0) < 2 then (if 1 < (l0.length : Int) then (pyxref09_Valid.j0 k l0 (decide ((rd l0 1) > 39))) else (none)) else (pyxref09_Valid.j0 k l0 false))) else (none)))
theorem pyxref09_Valid.mono_l : ∀ k, (∀ y0 y1, LeO (pyxref09_Valid.j0 k y0 y1) (pyxref09_Valid.j0 (k + 1) y0 y1)) ∧ (∀ y0 y1, LeO (pyxref09_Valid.l0 k y0 y1) (pyxref09_Valid.l0 (k + 1) y0 y1))
  | 0 => ⟨fun _ _ r h => by simp [pyxref09_Valid.j0] at h, fun _ _ r h => by simp [pyxref09_Valid.l0] at h⟩
  | k + 1 => by
    obtain ⟨ih0, ih1⟩ := pyxref09_Valid.mono_l k
    refine ⟨?_, ?_⟩
    · intro y0 y1
      unfold pyxref09_Valid.j0
      repeat' first
      | (with_reducible exact ih0 _ _)
      | (with_reducible exact ih1 _ _)
      | (with_reducible exact LeO.refl _)
      | (with_reducible exact LeO.none _)
      | (with_reducible refine LeO.ite ?_ ?_)
      | (with_reducible refine LeO.bind ?_ (fun _ => ?_))
      | exact ih0 _ _
      | exact ih1 _ _
      | exact LeO.none _
      | refine LeO.ite ?_ ?_
      | refine LeO.bind ?_ (fun _ => ?_)
    · intro y0 y1
      unfold pyxref09_Valid.l0
      repeat' first
      | (with_reducible exact ih0 _ _)
      | (with_reducible exact ih1 _ _)
      | (with_reducible exact LeO.refl _)
      | (with_reducible exact LeO.none _)
      | (with_reducible refine LeO.ite ?_ ?_)
      | (with_reducible refine LeO.bind ?_ (fun _ => ?_))
      | exact ih0 _ _
      | exact ih1 _ _
      | exact LeO.none _
      | refine LeO.ite ?_ ?_
      | refine LeO.bind ?_ (fun _ => ?_)
theorem pyxref09_Valid.mono : ∀ a0 k, LeO (pyxref09_Valid.f k a0) (pyxref09_Valid.f (k + 1) a0) := by
  intro a0 k
  obtain ⟨ih0, ih1⟩ := pyxref09_Valid.mono_l k
  unfold pyxref09_Valid.f
  repeat' first
      | (with_reducible exact ih0 _ _)
      | (with_reducible exact ih1 _ _)
      | (with_reducible exact LeO.refl _)
      | (with_reducible exact LeO.none _)
      | (with_reducible refine LeO.ite ?_ ?_)
      | (with_reducible refine LeO.bind ?_ (fun _ => ?_))
      | exact ih0 _ _
      | exact ih1 _ _
      | exact LeO.none _
      | refine LeO.ite ?_ ?_
      | refine LeO.bind ?_ (fun _ => ?_)
set_option maxHeartbeats 8000000 in
set_option maxRecDepth 100000 in
theorem pyxref09_Valid.calls (k : Nat) (A0 : Option Addr) (c0 : Nat) (l0 : List Int) (r : Bool) (w : World) (hr0 : Kd.C (Kd.int .u32) w A0 l0.length l0) (hc0 : l0.length ≤ c0) (h : pyxref09_Valid.f k l0 = some r) :
    Calls Tryd.prog 23 #[.slice A0 l0.length c0] w fun e w' => e = .returned (.bool r) ∧ Drawn0 w w' := by
  have HR0 := Aside0.mk hr0
  have HC0 := Aside0.mk hc0
  clear hr0 hc0
  have H : (if (l0.length : Int) < 2 then (pyxref09_Valid.j0 k l0 true) else (if (l0.length : Int) > 20 then (pyxref09_Valid.j0 k l0 true) else (if 0 < (l0.length : Int) then (if (rd l0 0) > 2 then (pyxref09_Valid.j0 k l0 true) else (if (rd l0 0) < 2 then (if 1 < (l0.length : Int) then (pyxref09_Valid.j0 k l0 (decide ((rd l0 1) > 39))) else (none)) else (pyxref09_Valid.j0 k l0 false))) else (none)))) = some r := h
  clear h
  have HC2 := Aside0.mk H
  clear H
  go_enter Tryd.func23, Tryd.ntmps23
  go_upto_region 1 with (fail)
  go_cut [29] (fun v29 wc => ∃ (kq : Nat) (x29_1 : Bool), v29 = .bool x29_1 ∧ Aside0 (pyxref09_Valid.j0 kq l0 x29_1 = some r) ∧ Aside0 (kq ≤ k) ∧ Drawn0 w wc)
  case first =>
    have H := HC2.out
    clear HC2
    by_cases c3 : (l0.length : Int) < 2
    · rw [if_pos c3] at H
      have c3b0 : decide ((l0.length : Int) < 2) = true := decide_eq_true c3
      have c3b1 : decide (l0.length < 2) = true := decide_eq_true (by omega)
      clear c3
      (first | rw [c3b0] | (simp only [i64_w, i32_w]; rw [c3b0]) | skip)
      have H' := Aside0.mk H
      clear H
      go_wp2
      go_meet
      case rel => exact ⟨_, (true), (by first | rfl | (simp; done) | (simp [*]; done)), H', ⟨by first | omega | exact Nat.le_refl _⟩, by repeat (first | exact Drawn0.refl _ | apply Drawn0.step)⟩
    · rw [if_neg c3] at H
      have c3b0 : decide ((l0.length : Int) < 2) = false := decide_eq_false c3
      have c3b1 : decide (l0.length < 2) = false := decide_eq_false (by omega)
      clear c3
      (first | rw [c3b0] | (simp only [i64_w, i32_w]; rw [c3b0]) | skip)
      by_cases c4 : (l0.length : Int) > 20
      · rw [if_pos c4] at H
        have c4b0 : decide (20 < (l0.length : Int)) = true := decide_eq_true c4
        have c4b1 : decide (20 < l0.length) = true := decide_eq_true (by omega)
        clear c4
        have H' := Aside0.mk H
        clear H
        go_wp2
        go_meet
        case rel => exact ⟨_, (true), (by first | rfl | (simp; done) | (simp [*]; done)), H', ⟨by first | omega | exact Nat.le_refl _⟩, by repeat (first | exact Drawn0.refl _ | apply Drawn0.step)⟩
      · rw [if_neg c4] at H
        have c4b0 : decide (20 < (l0.length : Int)) = false := decide_eq_false c4
        have c4b1 : decide (20 < l0.length) = false := decide_eq_false (by omega)
        clear c4
        by_cases c5 : 0 < (l0.length : Int)
        · rw [if_pos c5] at H
          have c5b0 : decide (0 < (l0.length : Int)) = true := decide_eq_true c5
          have c5b1 : decide (0 < l0.length) = true := decide_eq_true (by omega)
          clear c5
          by_cases c6 : (rd l0 0) > 2
          · rw [if_pos c6] at H
            have c6b0 : decide (2 < (rd l0 0)) = true := decide_eq_true c6
            clear c6
            have H' := Aside0.mk H
            clear H
            have p101 : 0 ≤ (0 : Int) := (by omega)
            have q101 : 0 < (l0.length : Int) := of_decide_eq_true (by first | (with_reducible assumption) | assumption)
            obtain ⟨ad101, e101, hx101_0⟩ := Kd.at_int HR0.out 0 p101 q101
            cases e101
            have qi101 : (0 < l0.length) = True := eq_true (by omega)
            (try rw [show ((0 : Int)).toNat = 0 from rfl] at hx101_0)
            (try rw [Addr.add_zero'] at hx101_0)
            replace p101 := eq_true p101
            replace q101 := eq_true q101
            go_wp2
            go_meet
            case rel => exact ⟨_, (true), (by first | rfl | (simp; done) | (simp [*]; done)), H', ⟨by first | omega | exact Nat.le_refl _⟩, by repeat (first | exact Drawn0.refl _ | apply Drawn0.step)⟩
          · rw [if_neg c6] at H
            have c6b0 : decide (2 < (rd l0 0)) = false := decide_eq_false c6
            clear c6
            by_cases c7 : (rd l0 0) < 2
            · rw [if_pos c7] at H
              have c7b0 : decide ((rd l0 0) < 2) = true := decide_eq_true c7
              clear c7
              by_cases c8 : 1 < (l0.length : Int)
              · rw [if_pos c8] at H
                have c8b0 : decide (1 < (l0.length : Int)) = true := decide_eq_true c8
                have c8b1 : decide (1 < l0.length) = true := decide_eq_true (by omega)
                clear c8
                have H' := Aside0.mk H
                clear H
                have p101 : 0 ≤ (0 : Int) := (by omega)
                have q101 : 0 < (l0.length : Int) := of_decide_eq_true (by first | (with_reducible assumption) | assumption)
                obtain ⟨ad101, e101, hx101_0⟩ := Kd.at_int HR0.out 0 p101 q101
                cases e101
                have qi101 : (0 < l0.length) = True := eq_true (by omega)
                (try rw [show ((0 : Int)).toNat = 0 from rfl] at hx101_0)
                (try rw [Addr.add_zero'] at hx101_0)
                replace p101 := eq_true p101
                replace q101 := eq_true q101
                have p102 : 0 ≤ (0 : Int) := (by omega)
                have q102 : 0 < (l0.length : Int) := of_decide_eq_true (by first | (with_reducible assumption) | assumption)
                obtain ⟨ad102, e102, hx102_0⟩ := Kd.at_int HR0.out 0 p102 q102
                obtain rfl : ad101 = ad102 := (by injection e102)
                have qi102 : (0 < l0.length) = True := eq_true (by omega)
                (try rw [show ((0 : Int)).toNat = 0 from rfl] at hx102_0)
                (try rw [Addr.add_zero'] at hx102_0)
                replace p102 := eq_true p102
                replace q102 := eq_true q102
                have p103 : 0 ≤ (1 : Int) := (by omega)
                have q103 : 1 < (l0.length : Int) := of_decide_eq_true (by first | (with_reducible assumption) | assumption)
                obtain ⟨ad103, e103, hx103_0⟩ := Kd.at_int HR0.out 1 p103 q103
                obtain rfl : ad101 = ad103 := (by injection e103)
                (try simp only [show (1 : Int).toNat = 1 from rfl, Nat.reduceMul, Nat.reduceEqDiff, Go.Addr.add, ↓reduceIte] at hx103_0)
                have qi103 : (1 < l0.length) = True := eq_true (by omega)
                (try rw [show ((1 : Int)).toNat = 1 from rfl] at hx103_0)
                replace p103 := eq_true p103
                replace q103 := eq_true q103
                go_wp2
                go_meet
                case rel => exact ⟨_, (decide ((rd l0 1) > 39)), (by first | rfl | (simp; done) | (simp [*]; done)), H', ⟨by first | omega | exact Nat.le_refl _⟩, by repeat (first | exact Drawn0.refl _ | apply Drawn0.step)⟩
              · rw [if_neg c8] at H
                exact absurd H (by simp)
            · rw [if_neg c7] at H
              have c7b0 : decide ((rd l0 0) < 2) = false := decide_eq_false c7
              clear c7
              have H' := Aside0.mk H
              clear H
              have p101 : 0 ≤ (0 : Int) := (by omega)
              have q101 : 0 < (l0.length : Int) := of_decide_eq_true (by first | (with_reducible assumption) | assumption)
              obtain ⟨ad101, e101, hx101_0⟩ := Kd.at_int HR0.out 0 p101 q101
              cases e101
              have qi101 : (0 < l0.length) = True := eq_true (by omega)
              (try rw [show ((0 : Int)).toNat = 0 from rfl] at hx101_0)
              (try rw [Addr.add_zero'] at hx101_0)
              replace p101 := eq_true p101
              replace q101 := eq_true q101
              have p102 : 0 ≤ (0 : Int) := (by omega)
              have q102 : 0 < (l0.length : Int) := of_decide_eq_true (by first | (with_reducible assumption) | assumption)
              obtain ⟨ad102, e102, hx102_0⟩ := Kd.at_int HR0.out 0 p102 q102
              obtain rfl : ad101 = ad102 := (by injection e102)
              have qi102 : (0 < l0.length) = True := eq_true (by omega)
              (try rw [show ((0 : Int)).toNat = 0 from rfl] at hx102_0)
              (try rw [Addr.add_zero'] at hx102_0)
              replace p102 := eq_true p102
              replace q102 := eq_true q102
              go_wp2
              go_meet
              case rel => exact ⟨_, (false), (by first | rfl | (simp; done) | (simp [*]; done)), H', ⟨by first | omega | exact Nat.le_refl _⟩, by repeat (first | exact Drawn0.refl _ | apply Drawn0.step)⟩
        · rw [if_neg c5] at H
          exact absurd H (by simp)
  case rest =>
    clear HC2
    try clear p1
    try clear q1
    try clear hx1
    try clear qi1
    try clear c2
    try clear p2
    try clear c3
    try clear c3b0
    try clear c3b1
    try clear c4
    try clear c4b0
    try clear c4b1
    try clear c5
    try clear c5b0
    try clear c5b1
    try clear c6
    try clear c6b0
    try clear c7
    try clear c7b0
    try clear c8
    try clear c8b0
    try clear c8b1
    try clear hx101_0
    try clear hx102_0
    try clear hx103_0
    try clear p101
    try clear p102
    try clear p103
    try clear q101
    try clear q102
    try clear q103
    obtain ⟨kq, x29_1, rfl, HA, HJ1, ⟨mc1, rfl⟩⟩ := hcut
    cases kq with
    | zero => exact absurd HA.out (by simp [pyxref09_Valid.j0])
    | succ kj1 =>
      have H := HA.out
      clear HA
      simp only [pyxref09_Valid.j0] at H
      by_cases c9 : x29_1 = true
      · subst c9
        have H1 : (some false) = some r := by rw [if_pos rfl] at H; exact H
        clear H
        have H := H1
        clear H1
        obtain rfl := Option.some.inj H
        go_wp2
        go_ret
        exact ⟨by first | rfl | (simp; done) | (simp [*]; done), by repeat (first | exact Drawn0.refl _ | apply Drawn0.step)⟩
      · replace c9 := Bool.eq_false_iff.mpr c9
        subst c9
        have H1 : (pyxref09_Valid.l0 kj1 l0 0) = some r := by rw [if_neg (show ¬ (false = true) by decide)] at H; exact H
        clear H
        have H := H1
        clear H1
        have H' := Aside0.mk H
        clear H
        go_wp2
        go_loopg [3] kj1 (fun kq v3 w' => ∃ (x3_2 : Int), v3 = .int .i64 x3_2 ∧ Aside0 (pyxref09_Valid.l0 kq l0 x3_2 = some r) ∧ Aside0 (kq ≤ kj1) ∧ Drawn0 w w')
        case atStart => exact ⟨(0), (by first | rfl | (simp; done) | (simp [*]; done)), H', ⟨Nat.le_refl _⟩, by repeat (first | exact Drawn0.refl _ | apply Drawn0.step)⟩
        case round =>
          clear H'
          try clear c1
          try clear p1
          try clear q1
          try clear hx1
          try clear qi1
          try clear c2
          try clear p2
          try clear c3
          try clear c3b0
          try clear c3b1
          try clear c4
          try clear c4b0
          try clear c4b1
          try clear c5
          try clear c5b0
          try clear c5b1
          try clear c6
          try clear c6b0
          try clear c7
          try clear c7b0
          try clear c8
          try clear c8b0
          try clear c8b1
          try clear c9
          try clear hx101_0
          try clear hx102_0
          try clear hx103_0
          try clear p1
          try clear p101
          try clear p102
          try clear p103
          try clear p2
          try clear q1
          try clear q101
          try clear q102
          try clear q103
          obtain ⟨x3_2, rfl, HA, HK2, ⟨m2, rfl⟩⟩ := hrel
          cases gk with
          | zero => exact absurd HA.out (by simp [pyxref09_Valid.l0])
          | succ k2 =>
            have H := HA.out
            clear HA
            simp only [pyxref09_Valid.l0] at H
            by_cases c10 : x3_2 < (l0.length : Int)
            · rw [if_pos c10] at H
              have c10b0 : decide (x3_2 < (l0.length : Int)) = true := decide_eq_true c10
              clear c10
              by_cases c11 : 0 ≤ x3_2
              · rw [if_pos c11] at H
                have c11b0 : decide (0 ≤ x3_2) = true := decide_eq_true c11
                clear c11
                by_cases c12 : (rd l0 x3_2) ≥ 4294967216
                · rw [if_pos c12] at H
                  have c12b0 : decide (4294967216 ≤ (rd l0 x3_2)) = true := decide_eq_true c12
                  clear c12
                  obtain rfl := Option.some.inj H
                  have p104 : 0 ≤ (x3_2 : Int) := of_decide_eq_true (by first | (with_reducible assumption) | assumption)
                  have q104 : x3_2 < (l0.length : Int) := of_decide_eq_true (by first | (with_reducible assumption) | assumption)
                  obtain ⟨ad104, e104, hx104_0⟩ := Kd.at_int HR0.out x3_2 p104 q104
                  cases e104
                  replace p104 := eq_true p104
                  replace q104 := eq_true q104
                  go_wp2
                  go_ret
                  exact ⟨by first | rfl | (simp; done) | (simp [*]; done), by repeat (first | exact Drawn0.refl _ | apply Drawn0.step)⟩
                · rw [if_neg c12] at H
                  have c12b0 : decide (4294967216 ≤ (rd l0 x3_2)) = false := decide_eq_false c12
                  clear c12
                  have H' := Aside0.mk H
                  clear H
                  have p104 : 0 ≤ (x3_2 : Int) := of_decide_eq_true (by first | (with_reducible assumption) | assumption)
                  have q104 : x3_2 < (l0.length : Int) := of_decide_eq_true (by first | (with_reducible assumption) | assumption)
                  obtain ⟨ad104, e104, hx104_0⟩ := Kd.at_int HR0.out x3_2 p104 q104
                  cases e104
                  replace p104 := eq_true p104
                  replace q104 := eq_true q104
                  go_wp2
                  go_roundg k2
                  case measure => have := HJ1.out; have := HK2.out; omega
                  case rel => exact ⟨(wrap64 (x3_2 + 1)), (by first | rfl | (simp; done) | (simp [*]; done)), H', ⟨by have := HJ1.out; have := HK2.out; omega⟩, by repeat (first | exact Drawn0.refl _ | apply Drawn0.step)⟩
              · rw [if_neg c11] at H
                exact absurd H (by simp)
            · rw [if_neg c10] at H
              have c10b0 : decide (x3_2 < (l0.length : Int)) = false := decide_eq_false c10
              clear c10
              obtain rfl := Option.some.inj H
              go_wp2
              go_ret
              exact ⟨by first | rfl | (simp; done) | (simp [*]; done), by repeat (first | exact Drawn0.refl _ | apply Drawn0.step)⟩

/-- THE ONE PURE STATEMENT of pyxref09_Valid: yours. -/
def pyxref09_Valid.Pure : Prop := ∀ (l0 : List Int), l0.length ≤ maxLen → l0.length * 4 ≤ 140737488351232 → (∀ x ∈ l0, (Lit.int .u32 x).wf = true) → ∃ k, pyxref09_Valid.f k l0 = some true
theorem pyxref09_Valid.walk (P : pyxref09_Valid.Pure) (a0 : Option Addr) (len0 cap0 : Nat) (z0 : List Int) (w : World) (w0 : (a0 = none ∧ len0 = 0 ∧ cap0 = 0 ∧ z0 = []) ∨ ∃ x, a0 = some x ∧ len0 ≤ cap0 ∧ cap0 ≤ maxLen ∧ z0.length = cap0 ∧ (∀ i, i < z0.length → w.cell? (x.add i) = some (.int .u32 (z0.getD i 0))) ∧ ∀ n ∈ z0, (Lit.int .u32 n).wf = true) (y0 : len0 * 4 ≤ 140737488351232) :
    Calls Tryd.prog 23 #[.slice a0 len0 cap0] w fun e w' => e = .returned (.bool true) ∧ Below w.heap.size w w' := by
  obtain ⟨l0, rfl, hr0, hm0, hw0, hc0⟩ := ReadsInt.ofRowC w0
  obtain ⟨k, h⟩ := P l0 hm0 y0 hw0
  refine (pyxref09_Valid.calls k _ _ l0 true w (Kd.C_of_reads (d := (0 : Int)) (h1 := fun _ => rfl) hr0) hc0 h).mono ?_
  rintro e w' ⟨rfl, hd⟩
  exact ⟨rfl, hd.below⟩

end Go.Proofs.YtjoncjnmhhimhaaDoor.PRef9V
end

section
-- Written by the kit's print.py, driven by this place's wip/tools/myprint.py. Not trusted: Lean checks it.
namespace Go.Proofs.YtjoncjnmhhimhaaDoor.PEq
open Go.RowKit Go.Proofs.YtjoncjnmhhimhaaDoor.Hand Go.Proofs.YtjoncjnmhhimhaaDoorW.PrintWords Go.Proofs.YtjoncjnmhhimhaaDoorW.PrintLast Go.Proofs.YtjoncjnmhhimhaaDoorW.PrintMore
attribute [local go_sem] max2_int min2_int max_two min_two max_three min_three max_four min_four   -- for this text's walks alone
set_option linter.unusedVariables false
set_option linter.unusedSimpArgs false



def errW : Option Int → Value
  | none => .nilIface
  | some c => .iface 0 (.int .i64 c)
theorem errW_none : errW none = .nilIface := rfl
theorem errW_some (c : Int) : errW (some c) = .iface 0 (.int .i64 c) := rfl

-- the values' own types

end Go.Proofs.YtjoncjnmhhimhaaDoor.PEq
namespace Go.Proofs.YtjoncjnmhhimhaaDoor.PEq
open Go.RowKit Go.Proofs.YtjoncjnmhhimhaaDoor.Hand Go.Proofs.YtjoncjnmhhimhaaDoorW.PrintWords Go.Proofs.YtjoncjnmhhimhaaDoorW.PrintLast Go.Proofs.YtjoncjnmhhimhaaDoorW.PrintMore
attribute [local go_sem] max2_int min2_int max_two min_two max_three min_three max_four min_four   -- for this text's walks alone
set_option linter.unusedVariables false
set_option linter.unusedSimpArgs false

/-! ### slices_Equal_uint32_uint32: function 15 -/
def slices_Equal_uint32_uint32.l0 : Nat → List Int → List Int → Int → Int → Option (Bool)
  | 0, _, _, _, _ => none
  | k + 1, x0, x1, x12, x13 => if x13 < x12 then (if 0 ≤ x13 then (if x13 < (x0.length : Int) then (if x13 < (x1.length : Int) then (if (rd x0 x13) = (rd x1 x13) then (slices_Equal_uint32_uint32.l0 k x0 x1 x12 (wrap64 (x13 + 1))) else (some false)) else (none)) else (none)) else (none)) else (some true)
def slices_Equal_uint32_uint32.f (k : Nat) (l0 : List Int) (l1 : List Int) : Option (Bool) := if (l0.length : Int) = (l1.length : Int) then (slices_Equal_uint32_uint32.l0 k l0 l1 (l0.length : Int) 0) else (some false)
theorem slices_Equal_uint32_uint32.mono_l : ∀ k, (∀ y0 y1 y2 y3, LeO (slices_Equal_uint32_uint32.l0 k y0 y1 y2 y3) (slices_Equal_uint32_uint32.l0 (k + 1) y0 y1 y2 y3))
  | 0 => fun _ _ _ _ r h => by simp [slices_Equal_uint32_uint32.l0] at h
  | k + 1 => by
    have ih0 := slices_Equal_uint32_uint32.mono_l k
    · intro y0 y1 y2 y3
      unfold slices_Equal_uint32_uint32.l0
      repeat' first
      | (with_reducible exact ih0 _ _ _ _)
      | (with_reducible exact LeO.refl _)
      | (with_reducible exact LeO.none _)
      | (with_reducible refine LeO.ite ?_ ?_)
      | (with_reducible refine LeO.bind ?_ (fun _ => ?_))
      | exact ih0 _ _ _ _
      | exact LeO.none _
      | refine LeO.ite ?_ ?_
      | refine LeO.bind ?_ (fun _ => ?_)
theorem slices_Equal_uint32_uint32.mono : ∀ a0 a1 k, LeO (slices_Equal_uint32_uint32.f k a0 a1) (slices_Equal_uint32_uint32.f (k + 1) a0 a1) := by
  intro a0 a1 k
  have ih0 := slices_Equal_uint32_uint32.mono_l k
  unfold slices_Equal_uint32_uint32.f
  repeat' first
      | (with_reducible exact ih0 _ _ _ _)
      | (with_reducible exact LeO.refl _)
      | (with_reducible exact LeO.none _)
      | (with_reducible refine LeO.ite ?_ ?_)
      | (with_reducible refine LeO.bind ?_ (fun _ => ?_))
      | exact ih0 _ _ _ _
      | exact LeO.none _
      | refine LeO.ite ?_ ?_
      | refine LeO.bind ?_ (fun _ => ?_)
set_option maxHeartbeats 8000000 in
set_option maxRecDepth 100000 in
theorem slices_Equal_uint32_uint32.calls (k : Nat) (A0 : Option Addr) (c0 : Nat) (l0 : List Int) (A1 : Option Addr) (c1 : Nat) (l1 : List Int) (r : Bool) (w : World) (hr0 : Kd.C (Kd.int .u32) w A0 l0.length l0) (hc0 : l0.length ≤ c0) (hr1 : Kd.C (Kd.int .u32) w A1 l1.length l1) (hc1 : l1.length ≤ c1) (h : slices_Equal_uint32_uint32.f k l0 l1 = some r) :
    Calls Tryd.prog 15 #[.slice A0 l0.length c0, .slice A1 l1.length c1] w fun e w' => e = .returned (.bool r) ∧ Drawn0 w w' := by
  have HR0 := Aside0.mk hr0
  have HC0 := Aside0.mk hc0
  clear hr0 hc0
  have HR1 := Aside0.mk hr1
  have HC1 := Aside0.mk hc1
  clear hr1 hc1
  have H : (if (l0.length : Int) = (l1.length : Int) then (slices_Equal_uint32_uint32.l0 k l0 l1 (l0.length : Int) 0) else (some false)) = some r := h
  clear h
  by_cases c3 : (l0.length : Int) = (l1.length : Int)
  · rw [if_pos c3] at H
    have c3b0 : ((l0.length : Int) == (l1.length : Int)) = true := beq_iff_eq.mpr c3
    have c3b1 : ((l0.length : Int) != (l1.length : Int)) = false := bne_eq_false_iff_eq.mpr c3
    have c3b2 : (l0.length == l1.length) = true := by first | simpa using c3 | (simp at c3 ⊢; omega)
    clear c3
    have H' := Aside0.mk H
    clear H
    go_enter Tryd.func15, Tryd.ntmps15
    go_wp2
    repeat (go_quiet (fail); try go_wp2)
    go_loopg [13] k (fun kq v13 w' => ∃ (x13_1 : Int), v13 = .int .i64 x13_1 ∧ Aside0 (slices_Equal_uint32_uint32.l0 kq l0 l1 (l0.length : Int) x13_1 = some r) ∧ Aside0 (kq ≤ k) ∧ Drawn0 w w')
    case atStart => exact ⟨(0), (by first | rfl | (simp; done) | (simp [*]; done)), H', ⟨Nat.le_refl _⟩, by repeat (first | exact Drawn0.refl _ | apply Drawn0.step)⟩
    case round =>
      clear H'
      try clear c1
      try clear p2
      try clear c3
      try clear c3b0
      try clear c3b1
      try clear c3b2
      obtain ⟨x13_1, rfl, HA, HK1, ⟨m1, rfl⟩⟩ := hrel
      cases gk with
      | zero => exact absurd HA.out (by simp [slices_Equal_uint32_uint32.l0])
      | succ k1 =>
        have H := HA.out
        clear HA
        simp only [slices_Equal_uint32_uint32.l0] at H
        by_cases c4 : x13_1 < (l0.length : Int)
        · rw [if_pos c4] at H
          have c4b0 : decide (x13_1 < (l0.length : Int)) = true := decide_eq_true c4
          clear c4
          by_cases c5 : 0 ≤ x13_1
          · rw [if_pos c5] at H
            have c5b0 : decide (0 ≤ x13_1) = true := decide_eq_true c5
            clear c5
            by_cases c6 : x13_1 < (l0.length : Int)
            · rw [if_pos c6] at H
              have c6b0 : decide (x13_1 < (l0.length : Int)) = true := decide_eq_true c6
              clear c6
              by_cases c7 : x13_1 < (l1.length : Int)
              · rw [if_pos c7] at H
                have c7b0 : decide (x13_1 < (l1.length : Int)) = true := decide_eq_true c7
                clear c7
                by_cases c8 : (rd l0 x13_1) = (rd l1 x13_1)
                · rw [if_pos c8] at H
                  have c8b0 : ((rd l0 x13_1) == (rd l1 x13_1)) = true := beq_iff_eq.mpr c8
                  have c8b1 : ((rd l0 x13_1) != (rd l1 x13_1)) = false := bne_eq_false_iff_eq.mpr c8
                  clear c8
                  have H' := Aside0.mk H
                  clear H
                  have p101 : 0 ≤ (x13_1 : Int) := of_decide_eq_true (by first | (with_reducible assumption) | assumption)
                  have q101 : x13_1 < (l0.length : Int) := of_decide_eq_true (by first | (with_reducible assumption) | assumption)
                  obtain ⟨ad101, e101, hx101_0⟩ := Kd.at_int HR0.out x13_1 p101 q101
                  cases e101
                  replace p101 := eq_true p101
                  replace q101 := eq_true q101
                  have p102 : 0 ≤ (x13_1 : Int) := of_decide_eq_true (by first | (with_reducible assumption) | assumption)
                  have q102 : x13_1 < (l1.length : Int) := of_decide_eq_true (by first | (with_reducible assumption) | assumption)
                  obtain ⟨ad102, e102, hx102_0⟩ := Kd.at_int HR1.out x13_1 p102 q102
                  cases e102
                  replace p102 := eq_true p102
                  replace q102 := eq_true q102
                  go_wp2
                  repeat (go_quiet (fail); try go_wp2)
                  go_roundg k1
                  case measure => have := HK1.out; omega
                  case rel => exact ⟨(wrap64 (x13_1 + 1)), (by first | rfl | (simp; done) | (simp [*]; done)), H', ⟨by have := HK1.out; omega⟩, by repeat (first | exact Drawn0.refl _ | apply Drawn0.step)⟩
                · rw [if_neg c8] at H
                  have c8b0 : ((rd l0 x13_1) == (rd l1 x13_1)) = false := beq_eq_false_iff_ne.mpr c8
                  have c8b1 : ((rd l0 x13_1) != (rd l1 x13_1)) = true := bne_iff_ne.mpr c8
                  obtain rfl := Option.some.inj H
                  have p101 : 0 ≤ (x13_1 : Int) := of_decide_eq_true (by first | (with_reducible assumption) | assumption)
                  have q101 : x13_1 < (l0.length : Int) := of_decide_eq_true (by first | (with_reducible assumption) | assumption)
                  obtain ⟨ad101, e101, hx101_0⟩ := Kd.at_int HR0.out x13_1 p101 q101
                  cases e101
                  replace p101 := eq_true p101
                  replace q101 := eq_true q101
                  have p102 : 0 ≤ (x13_1 : Int) := of_decide_eq_true (by first | (with_reducible assumption) | assumption)
                  have q102 : x13_1 < (l1.length : Int) := of_decide_eq_true (by first | (with_reducible assumption) | assumption)
                  obtain ⟨ad102, e102, hx102_0⟩ := Kd.at_int HR1.out x13_1 p102 q102
                  cases e102
                  replace p102 := eq_true p102
                  replace q102 := eq_true q102
                  go_wp2
                  repeat (go_quiet (fail); try go_wp2)
                  go_ret
                  exact ⟨by first | rfl | (simp; done) | (simp [*]; done), by repeat (first | exact Drawn0.refl _ | apply Drawn0.step)⟩
              · rw [if_neg c7] at H
                exact absurd H (by simp)
            · rw [if_neg c6] at H
              exact absurd H (by simp)
          · rw [if_neg c5] at H
            exact absurd H (by simp)
        · rw [if_neg c4] at H
          have c4b0 : decide (x13_1 < (l0.length : Int)) = false := decide_eq_false c4
          clear c4
          obtain rfl := Option.some.inj H
          go_wp2
          repeat (go_quiet (fail); try go_wp2)
          go_ret
          exact ⟨by first | rfl | (simp; done) | (simp [*]; done), by repeat (first | exact Drawn0.refl _ | apply Drawn0.step)⟩
  · rw [if_neg c3] at H
    have c3b0 : ((l0.length : Int) == (l1.length : Int)) = false := beq_eq_false_iff_ne.mpr c3
    have c3b1 : ((l0.length : Int) != (l1.length : Int)) = true := bne_iff_ne.mpr c3
    have c3b2 : (l0.length == l1.length) = false := by first | simpa using c3 | (simp at c3 ⊢; omega)
    obtain rfl := Option.some.inj H
    go_enter Tryd.func15, Tryd.ntmps15
    go_wp2
    repeat (go_quiet (fail); try go_wp2)
    go_ret
    exact ⟨by first | rfl | (simp; done) | (simp [*]; done), by repeat (first | exact Drawn0.refl _ | apply Drawn0.step)⟩

/-- THE ONE PURE STATEMENT of slices_Equal_uint32_uint32: yours. -/
def slices_Equal_uint32_uint32.Pure : Prop := ∀ (l0 : List Int) (l1 : List Int), l0.length ≤ maxLen → l0.length * 4 ≤ 140737488351232 → (∀ x ∈ l0, (Lit.int .u32 x).wf = true) → l1.length ≤ maxLen → l1.length * 4 ≤ 140737488351232 → (∀ x ∈ l1, (Lit.int .u32 x).wf = true) → ∃ k, slices_Equal_uint32_uint32.f k l0 l1 = some true
theorem slices_Equal_uint32_uint32.walk (P : slices_Equal_uint32_uint32.Pure) (a0 : Option Addr) (len0 cap0 : Nat) (z0 : List Int) (a1 : Option Addr) (len1 cap1 : Nat) (z1 : List Int) (w : World) (w0 : (a0 = none ∧ len0 = 0 ∧ cap0 = 0 ∧ z0 = []) ∨ ∃ x, a0 = some x ∧ len0 ≤ cap0 ∧ cap0 ≤ maxLen ∧ z0.length = cap0 ∧ (∀ i, i < z0.length → w.cell? (x.add i) = some (.int .u32 (z0.getD i 0))) ∧ ∀ n ∈ z0, (Lit.int .u32 n).wf = true) (y0 : len0 * 4 ≤ 140737488351232) (w1 : (a1 = none ∧ len1 = 0 ∧ cap1 = 0 ∧ z1 = []) ∨ ∃ x, a1 = some x ∧ len1 ≤ cap1 ∧ cap1 ≤ maxLen ∧ z1.length = cap1 ∧ (∀ i, i < z1.length → w.cell? (x.add i) = some (.int .u32 (z1.getD i 0))) ∧ ∀ n ∈ z1, (Lit.int .u32 n).wf = true) (y1 : len1 * 4 ≤ 140737488351232) :
    Calls Tryd.prog 15 #[.slice a0 len0 cap0, .slice a1 len1 cap1] w fun e w' => e = .returned (.bool true) ∧ Below w.heap.size w w' := by
  obtain ⟨l0, rfl, hr0, hm0, hw0, hc0⟩ := ReadsInt.ofRowC w0
  obtain ⟨l1, rfl, hr1, hm1, hw1, hc1⟩ := ReadsInt.ofRowC w1
  obtain ⟨k, h⟩ := P l0 l1 hm0 y0 hw0 hm1 y1 hw1
  refine (slices_Equal_uint32_uint32.calls k _ _ l0 _ _ l1 true w (Kd.C_of_reads (d := (0 : Int)) (h1 := fun _ => rfl) hr0) hc0 (Kd.C_of_reads (d := (0 : Int)) (h1 := fun _ => rfl) hr1) hc1 h).mono ?_
  rintro e w' ⟨rfl, hd⟩
  exact ⟨rfl, hd.below⟩

/-! ### pyxref01_Same: function 19 -/
def pyxref01_Same.l0 : Nat → List Int → List Int → Int → Option (Bool)
  | 0, _, _, _ => none
  | k + 1, x0, x1, x5 => if x5 < (x0.length : Int) then (if 0 ≤ x5 then (if x5 < (x1.length : Int) then (if (rd x0 x5) = (rd x1 x5) then (pyxref01_Same.l0 k x0 x1 (wrap64 (x5 + 1))) else (some false)) else (none)) else (none)) else (some true)
def pyxref01_Same.f (k : Nat) (l0 : List Int) (l1 : List Int) : Option (Bool) := if (l0.length : Int) = (l1.length : Int) then (pyxref01_Same.l0 k l0 l1 0) else (some false)
theorem pyxref01_Same.mono_l : ∀ k, (∀ y0 y1 y2, LeO (pyxref01_Same.l0 k y0 y1 y2) (pyxref01_Same.l0 (k + 1) y0 y1 y2))
  | 0 => fun _ _ _ r h => by simp [pyxref01_Same.l0] at h
  | k + 1 => by
    have ih0 := pyxref01_Same.mono_l k
    · intro y0 y1 y2
      unfold pyxref01_Same.l0
      repeat' first
      | (with_reducible exact ih0 _ _ _)
      | (with_reducible exact LeO.refl _)
      | (with_reducible exact LeO.none _)
      | (with_reducible refine LeO.ite ?_ ?_)
      | (with_reducible refine LeO.bind ?_ (fun _ => ?_))
      | exact ih0 _ _ _
      | exact LeO.none _
      | refine LeO.ite ?_ ?_
      | refine LeO.bind ?_ (fun _ => ?_)
theorem pyxref01_Same.mono : ∀ a0 a1 k, LeO (pyxref01_Same.f k a0 a1) (pyxref01_Same.f (k + 1) a0 a1) := by
  intro a0 a1 k
  have ih0 := pyxref01_Same.mono_l k
  unfold pyxref01_Same.f
  repeat' first
      | (with_reducible exact ih0 _ _ _)
      | (with_reducible exact LeO.refl _)
      | (with_reducible exact LeO.none _)
      | (with_reducible refine LeO.ite ?_ ?_)
      | (with_reducible refine LeO.bind ?_ (fun _ => ?_))
      | exact ih0 _ _ _
      | exact LeO.none _
      | refine LeO.ite ?_ ?_
      | refine LeO.bind ?_ (fun _ => ?_)
set_option maxHeartbeats 8000000 in
set_option maxRecDepth 100000 in
theorem pyxref01_Same.calls (k : Nat) (A0 : Option Addr) (c0 : Nat) (l0 : List Int) (A1 : Option Addr) (c1 : Nat) (l1 : List Int) (r : Bool) (w : World) (hr0 : Kd.C (Kd.int .u8) w A0 l0.length l0) (hc0 : l0.length ≤ c0) (hr1 : Kd.C (Kd.int .u8) w A1 l1.length l1) (hc1 : l1.length ≤ c1) (h : pyxref01_Same.f k l0 l1 = some r) :
    Calls Tryd.prog 19 #[.slice A0 l0.length c0, .slice A1 l1.length c1] w fun e w' => e = .returned (.bool r) ∧ Drawn0 w w' := by
  have HR0 := Aside0.mk hr0
  have HC0 := Aside0.mk hc0
  clear hr0 hc0
  have HR1 := Aside0.mk hr1
  have HC1 := Aside0.mk hc1
  clear hr1 hc1
  have H : (if (l0.length : Int) = (l1.length : Int) then (pyxref01_Same.l0 k l0 l1 0) else (some false)) = some r := h
  clear h
  by_cases c3 : (l0.length : Int) = (l1.length : Int)
  · rw [if_pos c3] at H
    have c3b0 : ((l0.length : Int) == (l1.length : Int)) = true := beq_iff_eq.mpr c3
    have c3b1 : ((l0.length : Int) != (l1.length : Int)) = false := bne_eq_false_iff_eq.mpr c3
    have c3b2 : (l0.length == l1.length) = true := by first | simpa using c3 | (simp at c3 ⊢; omega)
    clear c3
    have H' := Aside0.mk H
    clear H
    go_enter Tryd.func19, Tryd.ntmps19
    go_wp2
    repeat (go_quiet (fail); try go_wp2)
    go_loopg [5] k (fun kq v5 w' => ∃ (x5_1 : Int), v5 = .int .i64 x5_1 ∧ Aside0 (pyxref01_Same.l0 kq l0 l1 x5_1 = some r) ∧ Aside0 (kq ≤ k) ∧ Drawn0 w w')
    case atStart => exact ⟨(0), (by first | rfl | (simp; done) | (simp [*]; done)), H', ⟨Nat.le_refl _⟩, by repeat (first | exact Drawn0.refl _ | apply Drawn0.step)⟩
    case round =>
      clear H'
      try clear c1
      try clear p2
      try clear c3
      try clear c3b0
      try clear c3b1
      try clear c3b2
      obtain ⟨x5_1, rfl, HA, HK1, ⟨m1, rfl⟩⟩ := hrel
      cases gk with
      | zero => exact absurd HA.out (by simp [pyxref01_Same.l0])
      | succ k1 =>
        have H := HA.out
        clear HA
        simp only [pyxref01_Same.l0] at H
        by_cases c4 : x5_1 < (l0.length : Int)
        · rw [if_pos c4] at H
          have c4b0 : decide (x5_1 < (l0.length : Int)) = true := decide_eq_true c4
          clear c4
          by_cases c5 : 0 ≤ x5_1
          · rw [if_pos c5] at H
            have c5b0 : decide (0 ≤ x5_1) = true := decide_eq_true c5
            clear c5
            by_cases c6 : x5_1 < (l1.length : Int)
            · rw [if_pos c6] at H
              have c6b0 : decide (x5_1 < (l1.length : Int)) = true := decide_eq_true c6
              clear c6
              by_cases c7 : (rd l0 x5_1) = (rd l1 x5_1)
              · rw [if_pos c7] at H
                have c7b0 : ((rd l0 x5_1) == (rd l1 x5_1)) = true := beq_iff_eq.mpr c7
                have c7b1 : ((rd l0 x5_1) != (rd l1 x5_1)) = false := bne_eq_false_iff_eq.mpr c7
                clear c7
                have H' := Aside0.mk H
                clear H
                have p103 : 0 ≤ (x5_1 : Int) := of_decide_eq_true (by first | (with_reducible assumption) | assumption)
                have q103 : x5_1 < (l0.length : Int) := of_decide_eq_true (by first | (with_reducible assumption) | assumption)
                obtain ⟨ad103, e103, hx103_0⟩ := Kd.at_int HR0.out x5_1 p103 q103
                cases e103
                replace p103 := eq_true p103
                replace q103 := eq_true q103
                have p104 : 0 ≤ (x5_1 : Int) := of_decide_eq_true (by first | (with_reducible assumption) | assumption)
                have q104 : x5_1 < (l1.length : Int) := of_decide_eq_true (by first | (with_reducible assumption) | assumption)
                obtain ⟨ad104, e104, hx104_0⟩ := Kd.at_int HR1.out x5_1 p104 q104
                cases e104
                replace p104 := eq_true p104
                replace q104 := eq_true q104
                go_wp2
                repeat (go_quiet (fail); try go_wp2)
                go_roundg k1
                case measure => have := HK1.out; omega
                case rel => exact ⟨(wrap64 (x5_1 + 1)), (by first | rfl | (simp; done) | (simp [*]; done)), H', ⟨by have := HK1.out; omega⟩, by repeat (first | exact Drawn0.refl _ | apply Drawn0.step)⟩
              · rw [if_neg c7] at H
                have c7b0 : ((rd l0 x5_1) == (rd l1 x5_1)) = false := beq_eq_false_iff_ne.mpr c7
                have c7b1 : ((rd l0 x5_1) != (rd l1 x5_1)) = true := bne_iff_ne.mpr c7
                obtain rfl := Option.some.inj H
                have p103 : 0 ≤ (x5_1 : Int) := of_decide_eq_true (by first | (with_reducible assumption) | assumption)
                have q103 : x5_1 < (l0.length : Int) := of_decide_eq_true (by first | (with_reducible assumption) | assumption)
                obtain ⟨ad103, e103, hx103_0⟩ := Kd.at_int HR0.out x5_1 p103 q103
                cases e103
                replace p103 := eq_true p103
                replace q103 := eq_true q103
                have p104 : 0 ≤ (x5_1 : Int) := of_decide_eq_true (by first | (with_reducible assumption) | assumption)
                have q104 : x5_1 < (l1.length : Int) := of_decide_eq_true (by first | (with_reducible assumption) | assumption)
                obtain ⟨ad104, e104, hx104_0⟩ := Kd.at_int HR1.out x5_1 p104 q104
                cases e104
                replace p104 := eq_true p104
                replace q104 := eq_true q104
                go_wp2
                repeat (go_quiet (fail); try go_wp2)
                go_ret
                exact ⟨by first | rfl | (simp; done) | (simp [*]; done), by repeat (first | exact Drawn0.refl _ | apply Drawn0.step)⟩
            · rw [if_neg c6] at H
              exact absurd H (by simp)
          · rw [if_neg c5] at H
            exact absurd H (by simp)
        · rw [if_neg c4] at H
          have c4b0 : decide (x5_1 < (l0.length : Int)) = false := decide_eq_false c4
          clear c4
          obtain rfl := Option.some.inj H
          go_wp2
          repeat (go_quiet (fail); try go_wp2)
          go_ret
          exact ⟨by first | rfl | (simp; done) | (simp [*]; done), by repeat (first | exact Drawn0.refl _ | apply Drawn0.step)⟩
  · rw [if_neg c3] at H
    have c3b0 : ((l0.length : Int) == (l1.length : Int)) = false := beq_eq_false_iff_ne.mpr c3
    have c3b1 : ((l0.length : Int) != (l1.length : Int)) = true := bne_iff_ne.mpr c3
    have c3b2 : (l0.length == l1.length) = false := by first | simpa using c3 | (simp at c3 ⊢; omega)
    obtain rfl := Option.some.inj H
    go_enter Tryd.func19, Tryd.ntmps19
    go_wp2
    repeat (go_quiet (fail); try go_wp2)
    go_ret
    exact ⟨by first | rfl | (simp; done) | (simp [*]; done), by repeat (first | exact Drawn0.refl _ | apply Drawn0.step)⟩

/-- THE ONE PURE STATEMENT of pyxref01_Same: yours. -/
def pyxref01_Same.Pure : Prop := ∀ (l0 : List Int) (l1 : List Int), l0.length ≤ maxLen → l0.length * 1 ≤ 140737488351232 → (∀ x ∈ l0, (Lit.int .u8 x).wf = true) → l1.length ≤ maxLen → l1.length * 1 ≤ 140737488351232 → (∀ x ∈ l1, (Lit.int .u8 x).wf = true) → ∃ k, pyxref01_Same.f k l0 l1 = some true
theorem pyxref01_Same.walk (P : pyxref01_Same.Pure) (a0 : Option Addr) (len0 cap0 : Nat) (z0 : List Int) (a1 : Option Addr) (len1 cap1 : Nat) (z1 : List Int) (w : World) (w0 : (a0 = none ∧ len0 = 0 ∧ cap0 = 0 ∧ z0 = []) ∨ ∃ x, a0 = some x ∧ len0 ≤ cap0 ∧ cap0 ≤ maxLen ∧ z0.length = cap0 ∧ (∀ i, i < z0.length → w.cell? (x.add i) = some (.int .u8 (z0.getD i 0))) ∧ ∀ n ∈ z0, (Lit.int .u8 n).wf = true) (y0 : len0 * 1 ≤ 140737488351232) (w1 : (a1 = none ∧ len1 = 0 ∧ cap1 = 0 ∧ z1 = []) ∨ ∃ x, a1 = some x ∧ len1 ≤ cap1 ∧ cap1 ≤ maxLen ∧ z1.length = cap1 ∧ (∀ i, i < z1.length → w.cell? (x.add i) = some (.int .u8 (z1.getD i 0))) ∧ ∀ n ∈ z1, (Lit.int .u8 n).wf = true) (y1 : len1 * 1 ≤ 140737488351232) :
    Calls Tryd.prog 19 #[.slice a0 len0 cap0, .slice a1 len1 cap1] w fun e w' => e = .returned (.bool true) ∧ Below w.heap.size w w' := by
  obtain ⟨l0, rfl, hr0, hm0, hw0, hc0⟩ := ReadsInt.ofRowC w0
  obtain ⟨l1, rfl, hr1, hm1, hw1, hc1⟩ := ReadsInt.ofRowC w1
  obtain ⟨k, h⟩ := P l0 l1 hm0 y0 hw0 hm1 y1 hw1
  refine (pyxref01_Same.calls k _ _ l0 _ _ l1 true w (Kd.C_of_reads (d := (0 : Int)) (h1 := fun _ => rfl) hr0) hc0 (Kd.C_of_reads (d := (0 : Int)) (h1 := fun _ => rfl) hr1) hc1 h).mono ?_
  rintro e w' ⟨rfl, hd⟩
  exact ⟨rfl, hd.below⟩

/-! ### slices_Equal_int_int: function 29 -/
def slices_Equal_int_int.l0 : Nat → List Int → List Int → Int → Int → Option (Bool)
  | 0, _, _, _, _ => none
  | k + 1, x0, x1, x12, x13 => if x13 < x12 then (if 0 ≤ x13 then (if x13 < (x0.length : Int) then (if x13 < (x1.length : Int) then (if (rd x0 x13) = (rd x1 x13) then (slices_Equal_int_int.l0 k x0 x1 x12 (wrap64 (x13 + 1))) else (some false)) else (none)) else (none)) else (none)) else (some true)
def slices_Equal_int_int.f (k : Nat) (l0 : List Int) (l1 : List Int) : Option (Bool) := if (l0.length : Int) = (l1.length : Int) then (slices_Equal_int_int.l0 k l0 l1 (l0.length : Int) 0) else (some false)
theorem slices_Equal_int_int.mono_l : ∀ k, (∀ y0 y1 y2 y3, LeO (slices_Equal_int_int.l0 k y0 y1 y2 y3) (slices_Equal_int_int.l0 (k + 1) y0 y1 y2 y3))
  | 0 => fun _ _ _ _ r h => by simp [slices_Equal_int_int.l0] at h
  | k + 1 => by
    have ih0 := slices_Equal_int_int.mono_l k
    · intro y0 y1 y2 y3
      unfold slices_Equal_int_int.l0
      repeat' first
      | (with_reducible exact ih0 _ _ _ _)
      | (with_reducible exact LeO.refl _)
      | (with_reducible exact LeO.none _)
      | (with_reducible refine LeO.ite ?_ ?_)
      | (with_reducible refine LeO.bind ?_ (fun _ => ?_))
      | exact ih0 _ _ _ _
      | exact LeO.none _
      | refine LeO.ite ?_ ?_
      | refine LeO.bind ?_ (fun _ => ?_)
theorem slices_Equal_int_int.mono : ∀ a0 a1 k, LeO (slices_Equal_int_int.f k a0 a1) (slices_Equal_int_int.f (k + 1) a0 a1) := by
  intro a0 a1 k
  have ih0 := slices_Equal_int_int.mono_l k
  unfold slices_Equal_int_int.f
  repeat' first
      | (with_reducible exact ih0 _ _ _ _)
      | (with_reducible exact LeO.refl _)
      | (with_reducible exact LeO.none _)
      | (with_reducible refine LeO.ite ?_ ?_)
      | (with_reducible refine LeO.bind ?_ (fun _ => ?_))
      | exact ih0 _ _ _ _
      | exact LeO.none _
      | refine LeO.ite ?_ ?_
      | refine LeO.bind ?_ (fun _ => ?_)
set_option maxHeartbeats 8000000 in
set_option maxRecDepth 100000 in
theorem slices_Equal_int_int.calls (k : Nat) (A0 : Option Addr) (c0 : Nat) (l0 : List Int) (A1 : Option Addr) (c1 : Nat) (l1 : List Int) (r : Bool) (w : World) (hr0 : Kd.C (Kd.int .i64) w A0 l0.length l0) (hc0 : l0.length ≤ c0) (hr1 : Kd.C (Kd.int .i64) w A1 l1.length l1) (hc1 : l1.length ≤ c1) (h : slices_Equal_int_int.f k l0 l1 = some r) :
    Calls Tryd.prog 29 #[.slice A0 l0.length c0, .slice A1 l1.length c1] w fun e w' => e = .returned (.bool r) ∧ Drawn0 w w' := by
  have HR0 := Aside0.mk hr0
  have HC0 := Aside0.mk hc0
  clear hr0 hc0
  have HR1 := Aside0.mk hr1
  have HC1 := Aside0.mk hc1
  clear hr1 hc1
  have H : (if (l0.length : Int) = (l1.length : Int) then (slices_Equal_int_int.l0 k l0 l1 (l0.length : Int) 0) else (some false)) = some r := h
  clear h
  by_cases c3 : (l0.length : Int) = (l1.length : Int)
  · rw [if_pos c3] at H
    have c3b0 : ((l0.length : Int) == (l1.length : Int)) = true := beq_iff_eq.mpr c3
    have c3b1 : ((l0.length : Int) != (l1.length : Int)) = false := bne_eq_false_iff_eq.mpr c3
    have c3b2 : (l0.length == l1.length) = true := by first | simpa using c3 | (simp at c3 ⊢; omega)
    clear c3
    have H' := Aside0.mk H
    clear H
    go_enter Tryd.func29, Tryd.ntmps29
    go_wp2
    repeat (go_quiet (fail); try go_wp2)
    go_loopg [13] k (fun kq v13 w' => ∃ (x13_1 : Int), v13 = .int .i64 x13_1 ∧ Aside0 (slices_Equal_int_int.l0 kq l0 l1 (l0.length : Int) x13_1 = some r) ∧ Aside0 (kq ≤ k) ∧ Drawn0 w w')
    case atStart => exact ⟨(0), (by first | rfl | (simp; done) | (simp [*]; done)), H', ⟨Nat.le_refl _⟩, by repeat (first | exact Drawn0.refl _ | apply Drawn0.step)⟩
    case round =>
      clear H'
      try clear c1
      try clear c2
      try clear p2
      try clear c3
      try clear c3b0
      try clear c3b1
      try clear c3b2
      obtain ⟨x13_1, rfl, HA, HK1, ⟨m1, rfl⟩⟩ := hrel
      cases gk with
      | zero => exact absurd HA.out (by simp [slices_Equal_int_int.l0])
      | succ k1 =>
        have H := HA.out
        clear HA
        simp only [slices_Equal_int_int.l0] at H
        by_cases c4 : x13_1 < (l0.length : Int)
        · rw [if_pos c4] at H
          have c4b0 : decide (x13_1 < (l0.length : Int)) = true := decide_eq_true c4
          clear c4
          by_cases c5 : 0 ≤ x13_1
          · rw [if_pos c5] at H
            have c5b0 : decide (0 ≤ x13_1) = true := decide_eq_true c5
            clear c5
            by_cases c6 : x13_1 < (l0.length : Int)
            · rw [if_pos c6] at H
              have c6b0 : decide (x13_1 < (l0.length : Int)) = true := decide_eq_true c6
              clear c6
              by_cases c7 : x13_1 < (l1.length : Int)
              · rw [if_pos c7] at H
                have c7b0 : decide (x13_1 < (l1.length : Int)) = true := decide_eq_true c7
                clear c7
                by_cases c8 : (rd l0 x13_1) = (rd l1 x13_1)
                · rw [if_pos c8] at H
                  have c8b0 : ((rd l0 x13_1) == (rd l1 x13_1)) = true := beq_iff_eq.mpr c8
                  have c8b1 : ((rd l0 x13_1) != (rd l1 x13_1)) = false := bne_eq_false_iff_eq.mpr c8
                  clear c8
                  have H' := Aside0.mk H
                  clear H
                  have p105 : 0 ≤ (x13_1 : Int) := of_decide_eq_true (by first | (with_reducible assumption) | assumption)
                  have q105 : x13_1 < (l0.length : Int) := of_decide_eq_true (by first | (with_reducible assumption) | assumption)
                  obtain ⟨ad105, e105, hx105_0⟩ := Kd.at_int HR0.out x13_1 p105 q105
                  cases e105
                  replace p105 := eq_true p105
                  replace q105 := eq_true q105
                  have p106 : 0 ≤ (x13_1 : Int) := of_decide_eq_true (by first | (with_reducible assumption) | assumption)
                  have q106 : x13_1 < (l1.length : Int) := of_decide_eq_true (by first | (with_reducible assumption) | assumption)
                  obtain ⟨ad106, e106, hx106_0⟩ := Kd.at_int HR1.out x13_1 p106 q106
                  cases e106
                  replace p106 := eq_true p106
                  replace q106 := eq_true q106
                  go_wp2
                  repeat (go_quiet (fail); try go_wp2)
                  go_roundg k1
                  case measure => have := HK1.out; omega
                  case rel => exact ⟨(wrap64 (x13_1 + 1)), (by first | rfl | (simp; done) | (simp [*]; done)), H', ⟨by have := HK1.out; omega⟩, by repeat (first | exact Drawn0.refl _ | apply Drawn0.step)⟩
                · rw [if_neg c8] at H
                  have c8b0 : ((rd l0 x13_1) == (rd l1 x13_1)) = false := beq_eq_false_iff_ne.mpr c8
                  have c8b1 : ((rd l0 x13_1) != (rd l1 x13_1)) = true := bne_iff_ne.mpr c8
                  obtain rfl := Option.some.inj H
                  have p105 : 0 ≤ (x13_1 : Int) := of_decide_eq_true (by first | (with_reducible assumption) | assumption)
                  have q105 : x13_1 < (l0.length : Int) := of_decide_eq_true (by first | (with_reducible assumption) | assumption)
                  obtain ⟨ad105, e105, hx105_0⟩ := Kd.at_int HR0.out x13_1 p105 q105
                  cases e105
                  replace p105 := eq_true p105
                  replace q105 := eq_true q105
                  have p106 : 0 ≤ (x13_1 : Int) := of_decide_eq_true (by first | (with_reducible assumption) | assumption)
                  have q106 : x13_1 < (l1.length : Int) := of_decide_eq_true (by first | (with_reducible assumption) | assumption)
                  obtain ⟨ad106, e106, hx106_0⟩ := Kd.at_int HR1.out x13_1 p106 q106
                  cases e106
                  replace p106 := eq_true p106
                  replace q106 := eq_true q106
                  go_wp2
                  repeat (go_quiet (fail); try go_wp2)
                  go_ret
                  exact ⟨by first | rfl | (simp; done) | (simp [*]; done), by repeat (first | exact Drawn0.refl _ | apply Drawn0.step)⟩
              · rw [if_neg c7] at H
                exact absurd H (by simp)
            · rw [if_neg c6] at H
              exact absurd H (by simp)
          · rw [if_neg c5] at H
            exact absurd H (by simp)
        · rw [if_neg c4] at H
          have c4b0 : decide (x13_1 < (l0.length : Int)) = false := decide_eq_false c4
          clear c4
          obtain rfl := Option.some.inj H
          go_wp2
          repeat (go_quiet (fail); try go_wp2)
          go_ret
          exact ⟨by first | rfl | (simp; done) | (simp [*]; done), by repeat (first | exact Drawn0.refl _ | apply Drawn0.step)⟩
  · rw [if_neg c3] at H
    have c3b0 : ((l0.length : Int) == (l1.length : Int)) = false := beq_eq_false_iff_ne.mpr c3
    have c3b1 : ((l0.length : Int) != (l1.length : Int)) = true := bne_iff_ne.mpr c3
    have c3b2 : (l0.length == l1.length) = false := by first | simpa using c3 | (simp at c3 ⊢; omega)
    obtain rfl := Option.some.inj H
    go_enter Tryd.func29, Tryd.ntmps29
    go_wp2
    repeat (go_quiet (fail); try go_wp2)
    go_ret
    exact ⟨by first | rfl | (simp; done) | (simp [*]; done), by repeat (first | exact Drawn0.refl _ | apply Drawn0.step)⟩

/-- THE ONE PURE STATEMENT of slices_Equal_int_int: yours. -/
def slices_Equal_int_int.Pure : Prop := ∀ (l0 : List Int) (l1 : List Int), l0.length ≤ maxLen → l0.length * 8 ≤ 140737488351232 → (∀ x ∈ l0, (Lit.int .i64 x).wf = true) → l1.length ≤ maxLen → l1.length * 8 ≤ 140737488351232 → (∀ x ∈ l1, (Lit.int .i64 x).wf = true) → ∃ k, slices_Equal_int_int.f k l0 l1 = some true
theorem slices_Equal_int_int.walk (P : slices_Equal_int_int.Pure) (a0 : Option Addr) (len0 cap0 : Nat) (z0 : List Int) (a1 : Option Addr) (len1 cap1 : Nat) (z1 : List Int) (w : World) (w0 : (a0 = none ∧ len0 = 0 ∧ cap0 = 0 ∧ z0 = []) ∨ ∃ x, a0 = some x ∧ len0 ≤ cap0 ∧ cap0 ≤ maxLen ∧ z0.length = cap0 ∧ (∀ i, i < z0.length → w.cell? (x.add i) = some (.int .i64 (z0.getD i 0))) ∧ ∀ n ∈ z0, (Lit.int .i64 n).wf = true) (y0 : len0 * 8 ≤ 140737488351232) (w1 : (a1 = none ∧ len1 = 0 ∧ cap1 = 0 ∧ z1 = []) ∨ ∃ x, a1 = some x ∧ len1 ≤ cap1 ∧ cap1 ≤ maxLen ∧ z1.length = cap1 ∧ (∀ i, i < z1.length → w.cell? (x.add i) = some (.int .i64 (z1.getD i 0))) ∧ ∀ n ∈ z1, (Lit.int .i64 n).wf = true) (y1 : len1 * 8 ≤ 140737488351232) :
    Calls Tryd.prog 29 #[.slice a0 len0 cap0, .slice a1 len1 cap1] w fun e w' => e = .returned (.bool true) ∧ Below w.heap.size w w' := by
  obtain ⟨l0, rfl, hr0, hm0, hw0, hc0⟩ := ReadsInt.ofRowC w0
  obtain ⟨l1, rfl, hr1, hm1, hw1, hc1⟩ := ReadsInt.ofRowC w1
  obtain ⟨k, h⟩ := P l0 l1 hm0 y0 hw0 hm1 y1 hw1
  refine (slices_Equal_int_int.calls k _ _ l0 _ _ l1 true w (Kd.C_of_reads (d := (0 : Int)) (h1 := fun _ => rfl) hr0) hc0 (Kd.C_of_reads (d := (0 : Int)) (h1 := fun _ => rfl) hr1) hc1 h).mono ?_
  rintro e w' ⟨rfl, hd⟩
  exact ⟨rfl, hd.below⟩

end Go.Proofs.YtjoncjnmhhimhaaDoor.PEq
end

section
/- Equality of two slices of numbers: the printed loops come to the equality of the lists. -/
namespace Go.Proofs.YtjoncjnmhhimhaaDoor.Hand
set_option linter.unusedVariables false
set_option linter.unusedSimpArgs false
open Go.RowKit Go.Proofs.YtjoncjnmhhimhaaDoorW.PrintWords Go.Proofs.YtjoncjnmhhimhaaDoorW.PrintLast Go.Proofs.YtjoncjnmhhimhaaDoorW.PrintMore
theorem i64_in (x : Int) (h0 : -9223372036854775808 ≤ x) (h1 : x ≤ 9223372036854775807) : wrap64 x = x := by unfold wrap64; omega
theorem u64_in (x : Int) (h0 : 0 ≤ x) (h1 : x < 18446744073709551616) : IntKind.u64.wrap x = x := by rw [IntKind.wrap_u64]; omega

theorem slices_Equal_uint32_uint32_loop (a b : List Int) (hab : a.length = b.length) (hn : a.length ≤ 9223372036854775807) : ∀ (d k i : Nat), i + d = a.length → d < k →
    PEq.slices_Equal_uint32_uint32.l0 k a b (a.length : Int) (i : Int) = some (decide (a.drop i = b.drop i)) := by
  intro d
  induction d with
  | zero =>
    intro k i h1 h3
    obtain ⟨k, rfl⟩ : ∃ m, k = m + 1 := ⟨k - 1, by omega⟩
    have e1 : a.drop i = [] := List.drop_eq_nil_of_le (by omega)
    have e2 : b.drop i = [] := List.drop_eq_nil_of_le (by omega)
    simp only [PEq.slices_Equal_uint32_uint32.l0]
    rw [if_neg (by omega), e1, e2]
    simp
  | succ d ih =>
    intro k i h1 h3
    obtain ⟨k, rfl⟩ : ∃ m, k = m + 1 := ⟨k - 1, by omega⟩
    have hlt : i < a.length := by omega
    have hlt2 : i < b.length := by omega
    have r1 : rd a (i : Int) = a[i] := by simp [rd, List.getD, hlt]
    have r2 : rd b (i : Int) = b[i] := by simp [rd, List.getD, hlt2]
    simp only [PEq.slices_Equal_uint32_uint32.l0]
    rw [if_pos (by omega), if_pos (by omega), if_pos (by omega), if_pos (by omega), r1, r2, i64_in _ (by omega) (by omega)]
    have hd : (a.drop i = b.drop i) ↔ (a[i] = b[i] ∧ a.drop (i + 1) = b.drop (i + 1)) := by rw [List.drop_eq_getElem_cons hlt, List.drop_eq_getElem_cons hlt2, List.cons.injEq]
    have := ih k (i + 1) (by omega) (by omega)
    rw [show ((i + 1 : Nat) : Int) = (i : Int) + 1 from by omega] at this
    by_cases he : a[i] = b[i]
    · rw [if_pos he, this]
      congr 1
      rw [decide_eq_decide, hd]
      exact ⟨fun h => ⟨he, h⟩, fun h => h.2⟩
    · rw [if_neg he]
      congr 1
      symm
      rw [decide_eq_false_iff_not, hd]
      exact fun h => he h.1
def slices_Equal_uint32_uint32.f (l0 l1 : List Int) : Option Bool := some (decide (l0 = l1))
theorem slices_Equal_uint32_uint32.calls (A0 : Option Addr) (c0 : Nat) (l0 : List Int) (A1 : Option Addr) (c1 : Nat) (l1 : List Int) (r : Bool) (w : World) (hr0 : Kd.C (Kd.int .u32) w A0 l0.length l0) (hc0 : l0.length ≤ c0) (hr1 : Kd.C (Kd.int .u32) w A1 l1.length l1) (hc1 : l1.length ≤ c1) (h : slices_Equal_uint32_uint32.f l0 l1 = some r) :
    Calls Tryd.prog 15 #[.slice A0 l0.length c0, .slice A1 l1.length c1] w fun e w' => e = .returned (.bool r) ∧ Drawn0 w w' := by
  refine PEq.slices_Equal_uint32_uint32.calls (l0.length + 1) A0 c0 l0 A1 c1 l1 r w hr0 hc0 hr1 hc1 ?_
  obtain rfl := Option.some.inj h
  have hn := (Kd.reads_of_C (d := (0 : Int)) hr0).2.1
  unfold PEq.slices_Equal_uint32_uint32.f
  by_cases hl : l0.length = l1.length
  · rw [if_pos (by omega)]
    have := slices_Equal_uint32_uint32_loop l0 l1 hl hn l0.length (l0.length + 1) 0 (by omega) (by omega)
    rw [show ((0 : Nat) : Int) = 0 from rfl] at this
    rw [this]
    simp
  · rw [if_neg (by omega)]
    congr 1
    symm
    rw [decide_eq_false_iff_not]
    intro e
    exact hl (congrArg List.length e)

theorem slices_Equal_int_int_loop (a b : List Int) (hab : a.length = b.length) (hn : a.length ≤ 9223372036854775807) : ∀ (d k i : Nat), i + d = a.length → d < k →
    PEq.slices_Equal_int_int.l0 k a b (a.length : Int) (i : Int) = some (decide (a.drop i = b.drop i)) := by
  intro d
  induction d with
  | zero =>
    intro k i h1 h3
    obtain ⟨k, rfl⟩ : ∃ m, k = m + 1 := ⟨k - 1, by omega⟩
    have e1 : a.drop i = [] := List.drop_eq_nil_of_le (by omega)
    have e2 : b.drop i = [] := List.drop_eq_nil_of_le (by omega)
    simp only [PEq.slices_Equal_int_int.l0]
    rw [if_neg (by omega), e1, e2]
    simp
  | succ d ih =>
    intro k i h1 h3
    obtain ⟨k, rfl⟩ : ∃ m, k = m + 1 := ⟨k - 1, by omega⟩
    have hlt : i < a.length := by omega
    have hlt2 : i < b.length := by omega
    have r1 : rd a (i : Int) = a[i] := by simp [rd, List.getD, hlt]
    have r2 : rd b (i : Int) = b[i] := by simp [rd, List.getD, hlt2]
    simp only [PEq.slices_Equal_int_int.l0]
    rw [if_pos (by omega), if_pos (by omega), if_pos (by omega), if_pos (by omega), r1, r2, i64_in _ (by omega) (by omega)]
    have hd : (a.drop i = b.drop i) ↔ (a[i] = b[i] ∧ a.drop (i + 1) = b.drop (i + 1)) := by rw [List.drop_eq_getElem_cons hlt, List.drop_eq_getElem_cons hlt2, List.cons.injEq]
    have := ih k (i + 1) (by omega) (by omega)
    rw [show ((i + 1 : Nat) : Int) = (i : Int) + 1 from by omega] at this
    by_cases he : a[i] = b[i]
    · rw [if_pos he, this]
      congr 1
      rw [decide_eq_decide, hd]
      exact ⟨fun h => ⟨he, h⟩, fun h => h.2⟩
    · rw [if_neg he]
      congr 1
      symm
      rw [decide_eq_false_iff_not, hd]
      exact fun h => he h.1
def slices_Equal_int_int.f (l0 l1 : List Int) : Option Bool := some (decide (l0 = l1))
theorem slices_Equal_int_int.calls (A0 : Option Addr) (c0 : Nat) (l0 : List Int) (A1 : Option Addr) (c1 : Nat) (l1 : List Int) (r : Bool) (w : World) (hr0 : Kd.C (Kd.int .i64) w A0 l0.length l0) (hc0 : l0.length ≤ c0) (hr1 : Kd.C (Kd.int .i64) w A1 l1.length l1) (hc1 : l1.length ≤ c1) (h : slices_Equal_int_int.f l0 l1 = some r) :
    Calls Tryd.prog 29 #[.slice A0 l0.length c0, .slice A1 l1.length c1] w fun e w' => e = .returned (.bool r) ∧ Drawn0 w w' := by
  refine PEq.slices_Equal_int_int.calls (l0.length + 1) A0 c0 l0 A1 c1 l1 r w hr0 hc0 hr1 hc1 ?_
  obtain rfl := Option.some.inj h
  have hn := (Kd.reads_of_C (d := (0 : Int)) hr0).2.1
  unfold PEq.slices_Equal_int_int.f
  by_cases hl : l0.length = l1.length
  · rw [if_pos (by omega)]
    have := slices_Equal_int_int_loop l0 l1 hl hn l0.length (l0.length + 1) 0 (by omega) (by omega)
    rw [show ((0 : Nat) : Int) = 0 from rfl] at this
    rw [this]
    simp
  · rw [if_neg (by omega)]
    congr 1
    symm
    rw [decide_eq_false_iff_not]
    intro e
    exact hl (congrArg List.length e)

theorem pyxref01_Same_loop (a b : List Int) (hab : a.length = b.length) (hn : a.length ≤ 9223372036854775807) : ∀ (d k i : Nat), i + d = a.length → d < k →
    PEq.pyxref01_Same.l0 k a b (i : Int) = some (decide (a.drop i = b.drop i)) := by
  intro d
  induction d with
  | zero =>
    intro k i h1 h3
    obtain ⟨k, rfl⟩ : ∃ m, k = m + 1 := ⟨k - 1, by omega⟩
    have e1 : a.drop i = [] := List.drop_eq_nil_of_le (by omega)
    have e2 : b.drop i = [] := List.drop_eq_nil_of_le (by omega)
    simp only [PEq.pyxref01_Same.l0]
    rw [if_neg (by omega), e1, e2]
    simp
  | succ d ih =>
    intro k i h1 h3
    obtain ⟨k, rfl⟩ : ∃ m, k = m + 1 := ⟨k - 1, by omega⟩
    have hlt : i < a.length := by omega
    have hlt2 : i < b.length := by omega
    have r1 : rd a (i : Int) = a[i] := by simp [rd, List.getD, hlt]
    have r2 : rd b (i : Int) = b[i] := by simp [rd, List.getD, hlt2]
    simp only [PEq.pyxref01_Same.l0]
    rw [if_pos (by omega), if_pos (by omega), if_pos (by omega), r1, r2, i64_in _ (by omega) (by omega)]
    have hd : (a.drop i = b.drop i) ↔ (a[i] = b[i] ∧ a.drop (i + 1) = b.drop (i + 1)) := by rw [List.drop_eq_getElem_cons hlt, List.drop_eq_getElem_cons hlt2, List.cons.injEq]
    have := ih k (i + 1) (by omega) (by omega)
    rw [show ((i + 1 : Nat) : Int) = (i : Int) + 1 from by omega] at this
    by_cases he : a[i] = b[i]
    · rw [if_pos he, this]
      congr 1
      rw [decide_eq_decide, hd]
      exact ⟨fun h => ⟨he, h⟩, fun h => h.2⟩
    · rw [if_neg he]
      congr 1
      symm
      rw [decide_eq_false_iff_not, hd]
      exact fun h => he h.1
def pyxref01_Same.f (l0 l1 : List Int) : Option Bool := some (decide (l0 = l1))
theorem pyxref01_Same.calls (A0 : Option Addr) (c0 : Nat) (l0 : List Int) (A1 : Option Addr) (c1 : Nat) (l1 : List Int) (r : Bool) (w : World) (hr0 : Kd.C (Kd.int .u8) w A0 l0.length l0) (hc0 : l0.length ≤ c0) (hr1 : Kd.C (Kd.int .u8) w A1 l1.length l1) (hc1 : l1.length ≤ c1) (h : pyxref01_Same.f l0 l1 = some r) :
    Calls Tryd.prog 19 #[.slice A0 l0.length c0, .slice A1 l1.length c1] w fun e w' => e = .returned (.bool r) ∧ Drawn0 w w' := by
  refine PEq.pyxref01_Same.calls (l0.length + 1) A0 c0 l0 A1 c1 l1 r w hr0 hc0 hr1 hc1 ?_
  obtain rfl := Option.some.inj h
  have hn := (Kd.reads_of_C (d := (0 : Int)) hr0).2.1
  unfold PEq.pyxref01_Same.f
  by_cases hl : l0.length = l1.length
  · rw [if_pos (by omega)]
    have := pyxref01_Same_loop l0 l1 hl hn l0.length (l0.length + 1) 0 (by omega) (by omega)
    rw [show ((0 : Nat) : Int) = 0 from rfl] at this
    rw [this]
    simp
  · rw [if_neg (by omega)]
    congr 1
    symm
    rw [decide_eq_false_iff_not]
    intro e
    exact hl (congrArg List.length e)

end Go.Proofs.YtjoncjnmhhimhaaDoor.Hand
end

section
/- Which strings parse: the program's loop and the reference's loop over the words accept the same strings, with the same numbers. No program in sight. -/
namespace Go.Proofs.YtjoncjnmhhimhaaDoor.Oid
set_option linter.unusedVariables false
set_option linter.unusedSimpArgs false
open Go.Lib

theorem valid_iff (l : List Int) : validB l = true ↔ (2 ≤ l.length ∧ l.length ≤ 20 ∧ l.getD 0 0 ≤ 2 ∧ (2 ≤ l.getD 0 0 ∨ l.getD 1 0 < 40) ∧ ∀ n ∈ l, n < 4294967216) := by
  unfold validB
  simp only [Bool.and_eq_true, Bool.or_eq_true, decide_eq_true_eq, List.all_eq_true]
  constructor
  · intro h; exact ⟨h.1.1.1.1, h.1.1.1.2, h.1.1.2, h.1.2, h.2⟩
  · intro h; exact ⟨⟨⟨⟨h.1, h.2.1⟩, h.2.2.1⟩, h.2.2.2.1⟩, h.2.2.2.2⟩

theorem nDigits_le : ∀ (k n : Nat), 1 ≤ k → n < 10 ^ k → nDigits n ≤ k
  | 0, _, h, _ => absurd h (by omega)
  | k + 1, n, _, h => by
    by_cases h10 : n < 10
    · rw [nDigits_small h10]; omega
    · rw [nDigits_big h10]
      have hk : 1 ≤ k := by
        rcases Nat.eq_zero_or_pos k with rfl | hk
        · simp at h; omega
        · exact hk
      have := nDigits_le k (n / 10) hk (by rw [Nat.pow_succ] at h; omega)
      omega

/-- What the reference reads in a word: its number, or -1. -/
def numR (w : List UInt8) : Int :=
  if w ≠ [] ∧ (∀ c ∈ w, isDig c = true) ∧ (w.head? = some 48 → w.length = 1) ∧ w.length ≤ 10 ∧ valL 0 w ≤ 4294967295 then (valL 0 w : Int) else -1
def refLoop : List (List UInt8) → List Int → Option (List Int)
  | [], out => some out
  | w :: ws, out => if numR w < 0 then none else refLoop ws (out ++ [numR w])
def refParse (s : List UInt8) : List Int × Bool :=
  match refLoop (splitL [] s) [] with
  | some out => if validB out = true then (out, true) else ([], false)
  | none => ([], false)

/-- A text and its numbers. -/
def Good (s : List UInt8) (l : List Int) : Prop := validB l = true ∧ (∀ x ∈ l, 0 ≤ x) ∧ s = textL l

theorem dec_no46 (n : Nat) : ∀ c ∈ decDigits n, c ≠ 46 := by
  intro c hc e
  have := (dec_canon n).1.2.1 c hc
  subst e
  revert this
  decide
theorem numR_dec (n : Nat) (h : n < 4294967296) : numR (decDigits n) = n := by
  obtain ⟨⟨h1, h2, h3⟩, h4⟩ := dec_canon n
  unfold numR
  rw [if_pos ⟨h1, h2, h3, by rw [decDigits_length]; exact nDigits_le 10 n (by omega) (by omega), by rw [h4]; omega⟩, h4]
theorem dec_numR {w : List UInt8} (h : ¬ numR w < 0) : decDigits (numR w).toNat = w ∧ 0 ≤ numR w := by
  unfold numR at h ⊢
  split at h
  · rename_i hc
    rw [if_pos hc]
    refine ⟨?_, by omega⟩
    rw [Int.toNat_natCast]
    exact canon_dec w ⟨hc.1, hc.2.1, hc.2.2.1⟩
  · omega

theorem refLoop_some : ∀ (ws : List (List UInt8)) (acc out : List Int), refLoop ws acc = some out → ∃ l, out = acc ++ l ∧ (∀ x ∈ l, 0 ≤ x) ∧ (l.map fun n => decDigits n.toNat) = ws
  | [], acc, out, h => by
    simp only [refLoop, Option.some.injEq] at h
    exact ⟨[], by simp [h], by simp, rfl⟩
  | w :: ws, acc, out, h => by
    simp only [refLoop] at h
    split at h
    · cases h
    · rename_i hn
      obtain ⟨l, e, hp, hw⟩ := refLoop_some ws _ out h
      obtain ⟨e1, e2⟩ := dec_numR hn
      refine ⟨numR w :: l, by rw [e]; simp, ?_, by rw [List.map_cons, hw, e1]⟩
      intro x hx
      rcases List.mem_cons.1 hx with rfl | hx
      · exact e2
      · exact hp x hx
theorem refLoop_of : ∀ (l acc : List Int), (∀ x ∈ l, 0 ≤ x ∧ x < 4294967296) → refLoop (l.map fun n => decDigits n.toNat) acc = some (acc ++ l)
  | [], acc, _ => by simp [refLoop]
  | n :: l, acc, h => by
    obtain ⟨h0, h1⟩ := h n (by simp)
    have e : numR (decDigits n.toNat) = n := by rw [numR_dec _ (by omega)]; omega
    simp only [List.map_cons, refLoop]
    rw [e, if_neg (by omega), refLoop_of l _ (fun x hx => h x (by simp [hx]))]
    simp

theorem split_text {s : List UInt8} {l : List Int} (h : Good s l) : splitL [] s = l.map fun n => decDigits n.toNat := by
  obtain ⟨h1, _, rfl⟩ := h
  have hl := ((valid_iff l).1 h1).1
  unfold textL
  apply splitL_join
  · intro e
    have := congrArg List.length e
    simp at this
    subst this
    simp at hl
  · intro w hw
    obtain ⟨n, _, rfl⟩ := List.mem_map.1 hw
    exact dec_no46 _
theorem refParse_good {s : List UInt8} {l : List Int} (h : Good s l) : refParse s = (l, true) := by
  have hv := ((valid_iff l).1 h.1).2.2.2.2
  unfold refParse
  rw [split_text h, refLoop_of l [] (fun x hx => ⟨h.2.1 x hx, by have := hv x hx; omega⟩)]
  simp [h.1]
theorem good_refParse {s : List UInt8} {l : List Int} (h : refParse s = (l, true)) : Good s l := by
  unfold refParse at h
  cases hr : refLoop (splitL [] s) [] with
  | none => rw [hr] at h; simp at h
  | some out =>
    rw [hr] at h
    simp only at h
    by_cases hv : validB out = true
    · rw [if_pos hv] at h
      simp only [Prod.mk.injEq, and_true] at h
      subst h
      obtain ⟨l2, e, hp, hw⟩ := refLoop_some _ _ _ hr
      rw [List.nil_append] at e
      subst e
      refine ⟨hv, hp, ?_⟩
      unfold textL
      rw [hw, join_splitL]
      rfl
    · rw [if_neg hv] at h
      simp at h
theorem refParse_two (s : List UInt8) : (∃ l, refParse s = (l, true)) ∨ refParse s = ([], false) := by
  unfold refParse
  cases refLoop (splitL [] s) [] with
  | none => exact .inr rfl
  | some out =>
    simp only
    by_cases hv : validB out = true
    · rw [if_pos hv]; exact .inl ⟨_, rfl⟩
    · rw [if_neg hv]; exact .inr rfl

/-! ### The program's side -/
theorem index_one (l : List UInt8) : (index l [46] = -1 ∧ ∀ c ∈ l, c ≠ 46) ∨ ∃ a b, l = a ++ 46 :: b ∧ (∀ c ∈ a, c ≠ (46 : UInt8)) ∧ index l [46] = (a.length : Int) := by
  induction l with
  | nil => left; exact ⟨by simp [index], by simp⟩
  | cons b l ih =>
    by_cases h : b = 46
    · subst h
      right
      exact ⟨[], l, rfl, by simp, by rw [index]; simp [List.isPrefixOf]⟩
    · have hp : ([46] : List UInt8).isPrefixOf (b :: l) = false := by simp [List.isPrefixOf, Ne.symm h]
      have hix : index (b :: l) [46] = if index l [46] == -1 then -1 else index l [46] + 1 := by rw [index, hp]; simp
      rcases ih with ⟨h1, h2⟩ | ⟨x, y, rfl, h2, h3⟩
      · left
        refine ⟨by rw [hix, h1]; rfl, ?_⟩
        intro c hc
        rcases List.mem_cons.1 hc with rfl | hc
        · exact h
        · exact h2 c hc
      · right
        refine ⟨b :: x, y, by simp, ?_, ?_⟩
        · intro c hc
          rcases List.mem_cons.1 hc with rfl | hc
          · exact h
          · exact h2 c hc
        · rw [hix, h3, if_neg (by simp)]
          simp
theorem splitL_none {l : List UInt8} (h : ∀ c ∈ l, c ≠ 46) : splitL [] l = [l] := by
  have := splitL_skip l h [] []
  rw [List.append_nil] at this
  rw [this]
  simp [splitL]
theorem words_split : ∀ (k : Nat) (s : ByteArray), countB s ⟨#[46]⟩ = k → (splitB ⟨#[46]⟩ 0 k s).map (·.data.toList) = splitL [] s.data.toList
  | 0, s, hk => by
    rcases index_one s.data.toList with ⟨h1, h2⟩ | ⟨a, b, h1, h2, h3⟩
    · rw [splitB_zero, splitL_none h2]; rfl
    · have := countB_hit s ⟨#[46]⟩ a.length (by decide) h3
      omega
  | k + 1, s, hk => by
    rcases index_one s.data.toList with ⟨h1, h2⟩ | ⟨a, b, h1, h2, h3⟩
    · rw [countB_miss s _ h1] at hk
      omega
    · have hc := countB_hit s ⟨#[46]⟩ a.length (by decide) h3
      have hsz : s.size = s.data.toList.length := by show s.data.size = _; exact Array.length_toList.symm
      have hlen : s.size = a.length + 1 + b.length := by rw [hsz, h1]; simp; omega
      rw [splitB_hit _ 0 k s a.length h3, List.map_cons, words_split k _ (by omega)]
      have e1 : (s.extract 0 (a.length + 0)).data.toList = a := by
        rw [ByteArray.data_extract, Array.toList_extract, h1]
        simp
      have e2 : (s.extract (a.length + (⟨#[46]⟩ : ByteArray).size) s.size).data.toList = b := by
        rw [ByteArray.data_extract, Array.toList_extract, h1, hlen, show (⟨#[46]⟩ : ByteArray).size = 1 from rfl]
        rw [List.extract_eq_take_drop, show a ++ 46 :: b = (a ++ [46]) ++ b by simp, List.drop_left' (by simp)]
        exact List.take_of_length_le (by omega)
      rw [e1, e2, h1, splitL_skip a h2]
      simp [splitL]

theorem parseLoop_some : ∀ (ws : List ByteArray) (acc out : List Int), (∀ x ∈ acc, 0 ≤ x) → parseLoop ws acc = some out → ∀ x ∈ out, 0 ≤ x
  | [], acc, out, hp, h => by
    simp only [parseLoop, Option.some.injEq] at h
    subst h; exact hp
  | w :: ws, acc, out, hp, h => by
    simp only [parseLoop] at h
    split at h
    · split at h
      · cases h
      · exact parseLoop_some ws _ out (fun x hx => by
          rcases List.mem_append.1 hx with hx | hx
          · exact hp x hx
          · simp only [List.mem_singleton] at hx; omega) h
    · cases h
theorem parseUintB_dec (n : Nat) (h : n < 4294967296) : parseUintB 32 (decDigits n) = .ok n := by
  obtain ⟨⟨h1, h2, _⟩, h4⟩ := dec_canon n
  unfold parseUintB
  rw [if_neg h1, parseUintM_of (2 ^ 32 - 1) (by omega) _ 0 h2 (by rw [h4]; omega), h4]
theorem parseLoop_of : ∀ (ws : List ByteArray) (l acc : List Int), ws.map (·.data.toList) = (l.map fun n => decDigits n.toNat) → (∀ x ∈ l, 0 ≤ x ∧ x < 4294967296) → acc.length + l.length ≤ 20 → parseLoop ws acc = some (acc ++ l)
  | [], l, acc, hw, _, _ => by
    have : l = [] := by
      cases l with
      | nil => rfl
      | cons n l => simp at hw
    subst this
    simp [parseLoop]
  | w :: ws, l, acc, hw, hp, hl => by
    cases l with
    | nil => simp at hw
    | cons n l =>
      simp only [List.map_cons, List.cons.injEq] at hw
      obtain ⟨h0, h1⟩ := hp n (by simp)
      simp only [parseLoop]
      rw [hw.1, parseUintB_dec _ (by omega)]
      simp only
      simp only [List.length_cons] at hl
      rw [if_neg (by omega), parseLoop_of ws l _ hw.2 (fun x hx => hp x (by simp [hx])) (by simp; omega), show ((n.toNat : Nat) : Int) = n by omega]
      simp
theorem parseB_good {s : ByteArray} {l : List Int} (h : Good s.data.toList l) : parseB s = (l, true) := by
  obtain ⟨hv, hp, hs⟩ := h
  have hv5 := (valid_iff l).1 hv
  unfold parseB wordsB
  rw [parseLoop_of _ l [] (by rw [words_split _ s rfl]; exact split_text ⟨hv, hp, hs⟩) (fun x hx => ⟨hp x hx, by have := hv5.2.2.2.2 x hx; omega⟩) (by simp; omega)]
  simp only [List.nil_append]
  have ht : textB l = s := by
    unfold textB
    rw [if_pos hv, ← hs]
  rw [if_pos ⟨ht, hv⟩]
theorem good_parseB {s : ByteArray} {l : List Int} (h : parseB s = (l, true)) : Good s.data.toList l := by
  unfold parseB at h
  cases hr : parseLoop (wordsB s) [] with
  | none => rw [hr] at h; simp at h
  | some out =>
    rw [hr] at h
    simp only at h
    by_cases hc : textB out = s ∧ validB out = true
    · rw [if_pos hc] at h
      simp only [Prod.mk.injEq, and_true] at h
      subst h
      refine ⟨hc.2, parseLoop_some _ [] _ (by simp) hr, ?_⟩
      rw [← hc.1]
      unfold textB
      rw [if_pos hc.2]
    · rw [if_neg hc] at h
      simp at h
theorem parseB_two (s : ByteArray) : (∃ l, parseB s = (l, true)) ∨ parseB s = ([], false) := by
  unfold parseB
  cases parseLoop (wordsB s) [] with
  | none => exact .inr rfl
  | some out =>
    simp only
    by_cases hc : textB out = s ∧ validB out = true
    · rw [if_pos hc]; exact .inl ⟨_, rfl⟩
    · rw [if_neg hc]; exact .inr rfl

/-- THE TWO PARSERS AGREE. -/
theorem parse_eq (s : ByteArray) : parseB s = refParse s.data.toList := by
  rcases parseB_two s with ⟨l, h⟩ | h
  · rw [h, refParse_good (good_parseB h)]
  · rcases refParse_two s.data.toList with ⟨l, h2⟩ | h2
    · rw [parseB_good (good_refParse h2)] at h
      simp at h
    · rw [h, h2]

end Go.Proofs.YtjoncjnmhhimhaaDoor.Oid
end

section
/- pyxref09.Valid and pyxref09.Content come to the same plain functions as the program's Valid and Content. -/
namespace Go.Proofs.YtjoncjnmhhimhaaDoor.Hand
set_option linter.unusedVariables false
set_option linter.unusedSimpArgs false
open Go.RowKit Go.Proofs.YtjoncjnmhhimhaaDoorW.PrintWords Go.Proofs.YtjoncjnmhhimhaaDoorW.PrintLast Go.Proofs.YtjoncjnmhhimhaaDoorW.PrintMore
open Go.Proofs.YtjoncjnmhhimhaaDoor.Oid

theorem ref9_valid (l : List Int) (k : Nat) (hk : 24 ≤ k) : PRef9V.pyxref09_Valid.f k l = some (validB l) := by
  have hloop : ∀ (d k i : Nat), i + d = l.length → l.length ≤ 20 → d < k → PRef9V.pyxref09_Valid.l0 k l (i : Int) = some ((l.drop i).all fun n => decide (n < 4294967216)) := by
    intro d
    induction d with
    | zero =>
      intro k i h1 _ h3
      obtain ⟨k, rfl⟩ : ∃ m, k = m + 1 := ⟨k - 1, by omega⟩
      have : l.drop i = [] := List.drop_eq_nil_of_le (by omega)
      rw [PRef9V.pyxref09_Valid.l0, if_neg (by omega), this]
      rfl
    | succ d ih =>
      intro k i h1 hl h3
      obtain ⟨k, rfl⟩ : ∃ m, k = m + 1 := ⟨k - 1, by omega⟩
      have hlt : i < l.length := by omega
      have hrd : rd l (i : Int) = l[i] := by simp [rd, List.getD, hlt]
      rw [PRef9V.pyxref09_Valid.l0, if_pos (by omega), if_pos (by omega), hrd, List.drop_eq_getElem_cons hlt, List.all_cons]
      by_cases hn : l[i] < 4294967216
      · rw [if_neg (by omega), i64_in _ (by omega) (by omega), decide_eq_true hn, Bool.true_and]
        have := ih k (i + 1) (by omega) hl (by omega)
        rw [show ((i + 1 : Nat) : Int) = (i : Int) + 1 from by omega] at this
        exact this
      · rw [if_pos (by omega), decide_eq_false hn, Bool.false_and]
  have hj : ∀ b k, 23 ≤ k → l.length ≤ 20 → PRef9V.pyxref09_Valid.j0 k l b = some (!b && l.all fun n => decide (n < 4294967216)) := by
    intro b k hk hl
    obtain ⟨k, rfl⟩ : ∃ m, k = m + 1 := ⟨k - 1, by omega⟩
    rw [PRef9V.pyxref09_Valid.j0]
    cases b with
    | true => rw [if_pos rfl]; rfl
    | false =>
      rw [if_neg (by decide)]
      have := hloop l.length k 0 (by omega) hl (by omega)
      rw [show ((0 : Nat) : Int) = 0 from rfl] at this
      rw [this]
      rfl
  have hj1 : ∀ k, 23 ≤ k → PRef9V.pyxref09_Valid.j0 k l true = some false := by
    intro k hk
    obtain ⟨k, rfl⟩ : ∃ m, k = m + 1 := ⟨k - 1, by omega⟩
    rw [PRef9V.pyxref09_Valid.j0, if_pos rfl]
  have no : ¬ (2 ≤ l.length ∧ l.length ≤ 20 ∧ l.getD 0 0 ≤ 2 ∧ (2 ≤ l.getD 0 0 ∨ l.getD 1 0 < 40) ∧ ∀ n ∈ l, n < 4294967216) → validB l = false := fun h => Bool.eq_false_iff.2 (fun e => h ((valid_iff l).1 e))
  unfold PRef9V.pyxref09_Valid.f
  by_cases h1 : l.length < 2
  · rw [if_pos (by omega), hj1 k (by omega), no (by omega)]
  rw [if_neg (by omega)]
  by_cases h2 : 20 < l.length
  · rw [if_pos (by omega), hj1 k (by omega), no (by omega)]
  rw [if_neg (by omega), if_pos (by omega)]
  have r0 : rd l 0 = l.getD 0 0 := rfl
  have r1 : rd l 1 = l.getD 1 0 := rfl
  rw [r0, r1]
  by_cases h3 : 2 < l.getD 0 0
  · rw [if_pos (by omega), hj1 k (by omega), no (by omega)]
  rw [if_neg (by omega)]
  have fin : (2 ≤ l.getD 0 0 ∨ l.getD 1 0 < 40) → some (l.all fun n => decide (n < 4294967216)) = some (validB l) := by
    intro h4
    unfold validB
    rw [decide_eq_true (by omega : 2 ≤ l.length), decide_eq_true (by omega : l.length ≤ 20), decide_eq_true (by omega : l.getD 0 0 ≤ 2)]
    have : (decide (2 ≤ l.getD 0 0) || decide (l.getD 1 0 < 40)) = true := by simpa using h4
    rw [this]
    simp
  by_cases h4 : l.getD 0 0 < 2
  · rw [if_pos h4, if_pos (by omega)]
    by_cases h5 : l.getD 1 0 < 40
    · rw [decide_eq_false (by omega), hj false k (by omega) (by omega)]
      exact fin (.inr h5)
    · rw [decide_eq_true (by omega), hj1 k (by omega), no (by omega)]
  · rw [if_neg h4, hj false k (by omega) (by omega)]
    exact fin (.inl (by omega))

def pyxref09_Valid.f (l0 : List Int) : Option Bool := some (validB l0)
theorem pyxref09_Valid.calls (A0 : Option Addr) (c0 : Nat) (l0 : List Int) (r : Bool) (w : World) (hr0 : Kd.C (Kd.int .u32) w A0 l0.length l0) (hc0 : l0.length ≤ c0) (h : pyxref09_Valid.f l0 = some r) :
    Calls Tryd.prog 23 #[.slice A0 l0.length c0] w fun e w' => e = .returned (.bool r) ∧ Drawn0 w w' :=
  PRef9V.pyxref09_Valid.calls 24 A0 c0 l0 r w hr0 hc0 ((ref9_valid l0 24 (by omega)).trans h)
end Go.Proofs.YtjoncjnmhhimhaaDoor.Hand
end

section
-- Written by the kit's print.py, driven by this place's wip/tools/myprint.py. Not trusted: Lean checks it.
namespace Go.Proofs.YtjoncjnmhhimhaaDoor.PDec
open Go.RowKit Go.Proofs.YtjoncjnmhhimhaaDoor.Hand Go.Proofs.YtjoncjnmhhimhaaDoorW.PrintWords Go.Proofs.YtjoncjnmhhimhaaDoorW.PrintLast Go.Proofs.YtjoncjnmhhimhaaDoorW.PrintMore
attribute [local go_sem] max2_int min2_int max_two min_two max_three min_three max_four min_four   -- for this text's walks alone
set_option linter.unusedVariables false
set_option linter.unusedSimpArgs false



def errW : Option Int → Value
  | none => .nilIface
  | some c => .iface 0 (.int .i64 c)
theorem errW_none : errW none = .nilIface := rfl
theorem errW_some (c : Int) : errW (some c) = .iface 0 (.int .i64 c) := rfl

-- the values' own types

end Go.Proofs.YtjoncjnmhhimhaaDoor.PDec
namespace Go.Proofs.YtjoncjnmhhimhaaDoor.PDec
open Go.RowKit Go.Proofs.YtjoncjnmhhimhaaDoor.Hand Go.Proofs.YtjoncjnmhhimhaaDoorW.PrintWords Go.Proofs.YtjoncjnmhhimhaaDoorW.PrintLast Go.Proofs.YtjoncjnmhhimhaaDoorW.PrintMore
attribute [local go_sem] max2_int min2_int max_two min_two max_three min_three max_four min_four   -- for this text's walks alone
set_option linter.unusedVariables false
set_option linter.unusedSimpArgs false

/-! ### pyxref02_Decimal: function 44 -/
def pyxref02_Decimal.f : Nat → Int → Option (ByteArray)
  | 0, _ => none
  | k + 1, a0 => if a0 < (-9) then ((pyxref02_Decimal.f k (wrap64 (Int.tdiv a0 10))).bind fun t101 => ((pyxref02_Decimal.f k (wrap64 (-(Int.tmod a0 10)))).bind fun t102 => (if t101.size + t102.size ≤ 9223372036854775807 then (some (t101 ++ t102)) else (none)))) else (if a0 < 0 then ((pyxref02_Decimal.f k (wrap64 (-a0))).bind fun t103 => (if 1 + t103.size ≤ 9223372036854775807 then (some ((⟨#[45]⟩ : ByteArray) ++ t103)) else (none))) else (if a0 < 10 then (if 0 ≤ a0 then (if a0 ≤ (wrap64 (a0 + 1)) then (if (wrap64 (a0 + 1)) ≤ 10 then (some ((⟨#[48, 49, 50, 51, 52, 53, 54, 55, 56, 57]⟩ : ByteArray).extract (a0 : Int).toNat ((wrap64 (a0 + 1)) : Int).toNat)) else (none)) else (none)) else (none)) else ((pyxref02_Decimal.f k (wrap64 (Int.tdiv a0 10))).bind fun t104 => (if 0 ≤ (Int.tmod a0 10) then (if (Int.tmod a0 10) ≤ (wrap64 ((Int.tmod a0 10) + 1)) then (if (wrap64 ((Int.tmod a0 10) + 1)) ≤ 10 then (if t104.size + ((⟨#[48, 49, 50, 51, 52, 53, 54, 55, 56, 57]⟩ : ByteArray).extract ((Int.tmod a0 10) : Int).toNat ((wrap64 ((Int.tmod a0 10) + 1)) : Int).toNat).size ≤ 9223372036854775807 then (some (t104 ++ ((⟨#[48, 49, 50, 51, 52, 53, 54, 55, 56, 57]⟩ : ByteArray).extract ((Int.tmod a0 10) : Int).toNat ((wrap64 ((Int.tmod a0 10) + 1)) : Int).toNat))) else (none)) else (none)) else (none)) else (none)))))
theorem pyxref02_Decimal.mono_l : ∀ k, (∀ y0, LeO (pyxref02_Decimal.f k y0) (pyxref02_Decimal.f (k + 1) y0))
  | 0 => fun _ r h => by simp [pyxref02_Decimal.f] at h
  | k + 1 => by
    have ih0 := pyxref02_Decimal.mono_l k
    · intro y0
      unfold pyxref02_Decimal.f
      repeat' first
      | (with_reducible exact ih0 _)
      | (with_reducible exact LeO.refl _)
      | (with_reducible exact LeO.none _)
      | (with_reducible refine LeO.ite ?_ ?_)
      | (with_reducible refine LeO.bind ?_ (fun _ => ?_))
      | exact ih0 _
      | exact LeO.none _
      | refine LeO.ite ?_ ?_
      | refine LeO.bind ?_ (fun _ => ?_)
theorem pyxref02_Decimal.mono : ∀ a0 k, LeO (pyxref02_Decimal.f k a0) (pyxref02_Decimal.f (k + 1) a0) := by
  intro a0 k
  have ih0 := pyxref02_Decimal.mono_l k
  exact ih0 a0
def pyxref02_Decimal.T8 : Bool × List (List Nat × List Nat) := (true, [([], []), ([0], [0]), ([1], [1]), ([], []), ([], []), ([4], [4]), ([], []), ([6], [6]), ([7], [7]), ([3, 5, 8], [3, 5, 8]), ([2, 9], [2, 9]), ([10, 2, 0, 1, 2, 3, 4, 5, 6, 7, 8, 9, 10], [10])])
def pyxref02_Decimal.B8 : List Nat := [0, 1, 3, 0, 0, 16, 0, 64, 192, 504, 1023, 2047]
theorem pyxref02_Decimal.tab8 : rtab .any (opsOf Tryd.f44 8) = pyxref02_Decimal.T8 := by kernel_rfl
theorem pyxref02_Decimal.bits8 : waitsOk pyxref02_Decimal.T8.2 pyxref02_Decimal.B8 = true := by kernel_rfl
set_option maxHeartbeats 8000000 in
set_option maxRecDepth 100000 in
theorem pyxref02_Decimal.calls (k : Nat) : ∀ (a0 : Int) (r : ByteArray) (w : World) (h : pyxref02_Decimal.f k a0 = some r),
    Calls Tryd.prog 44 #[.int .i64 a0] w fun e w' => e = .returned (.string r) ∧ Below w.heap.size w w' := by
  induction k using Nat.strongRecOn with
  | _ k ih =>
  intro a0 r w h
  cases k with
  | zero => exact absurd h (by simp [pyxref02_Decimal.f])
  | succ k =>
  simp only [pyxref02_Decimal.f] at h
  have HB := Aside0.mk (Below.refl w.heap.size w)
  have H : (if a0 < (-9) then ((pyxref02_Decimal.f k (wrap64 (Int.tdiv a0 10))).bind fun t101 => ((pyxref02_Decimal.f k (wrap64 (-(Int.tmod a0 10)))).bind fun t102 => (if t101.size + t102.size ≤ 9223372036854775807 then (some (t101 ++ t102)) else (none)))) else (if a0 < 0 then ((pyxref02_Decimal.f k (wrap64 (-a0))).bind fun t103 => (if 1 + t103.size ≤ 9223372036854775807 then (some ((⟨#[45]⟩ : ByteArray) ++ t103)) else (none))) else (if a0 < 10 then (if 0 ≤ a0 then (if a0 ≤ (wrap64 (a0 + 1)) then (if (wrap64 (a0 + 1)) ≤ 10 then (some ((⟨#[48, 49, 50, 51, 52, 53, 54, 55, 56, 57]⟩ : ByteArray).extract (a0 : Int).toNat ((wrap64 (a0 + 1)) : Int).toNat)) else (none)) else (none)) else (none)) else ((pyxref02_Decimal.f k (wrap64 (Int.tdiv a0 10))).bind fun t104 => (if 0 ≤ (Int.tmod a0 10) then (if (Int.tmod a0 10) ≤ (wrap64 ((Int.tmod a0 10) + 1)) then (if (wrap64 ((Int.tmod a0 10) + 1)) ≤ 10 then (if t104.size + ((⟨#[48, 49, 50, 51, 52, 53, 54, 55, 56, 57]⟩ : ByteArray).extract ((Int.tmod a0 10) : Int).toNat ((wrap64 ((Int.tmod a0 10) + 1)) : Int).toNat).size ≤ 9223372036854775807 then (some (t104 ++ ((⟨#[48, 49, 50, 51, 52, 53, 54, 55, 56, 57]⟩ : ByteArray).extract ((Int.tmod a0 10) : Int).toNat ((wrap64 ((Int.tmod a0 10) + 1)) : Int).toNat))) else (none)) else (none)) else (none)) else (none)))))) = some r := h
  clear h
  by_cases c2 : a0 < (-9)
  · rw [if_pos c2] at H
    have c2b0 : decide (a0 < (-9)) = true := decide_eq_true c2
    clear c2
    replace H := Option.bind_eq_some_iff.mp H
    obtain ⟨t101, A30, H⟩ := H
    replace H : ((pyxref02_Decimal.f k (wrap64 (-(Int.tmod a0 10)))).bind fun t102 => (if t101.size + t102.size ≤ 9223372036854775807 then (some (t101 ++ t102)) else (none))) = some r := H
    have A3 := Aside0.mk A30
    clear A30
    replace H := Option.bind_eq_some_iff.mp H
    obtain ⟨t102, A40, H⟩ := H
    replace H : (if t101.size + t102.size ≤ 9223372036854775807 then (some (t101 ++ t102)) else (none)) = some r := H
    have A4 := Aside0.mk A40
    clear A40
    by_cases c5 : t101.size + t102.size ≤ 9223372036854775807
    · rw [if_pos c5] at H
      have c5b0 := eq_true c5
      have c5b1 : decide (t101.size + t102.size ≤ 9223372036854775807) = true := decide_eq_true c5
      try have c5b2 : (9223372036854775807 < t101.size + t102.size) = False := eq_false (Nat.not_lt.2 c5)
      obtain rfl := Option.some.inj H
      go_enter Tryd.func44, Tryd.ntmps44
      go_wp2_with (first | ((with_reducible refine gate_callee (f := 44) rfl ?_); refine goesL_ (some 8) rfl rfl Tryd.func44 (by kernel_rfl) rfl #[.int .i64 (wrap64 (Int.tdiv a0 10))] rfl (by (try simp only [List.map_toArray, List.map_cons, List.map_nil]); first | done | rfl | (simp only [List.length_drop, List.length_take]; rfl)) ?_; (with_reducible refine (ih k (by omega) (wrap64 (Int.tdiv a0 10)) t101 _ A3.out).mono ?_); rintro e w6 ⟨rfl, hb⟩; refine ⟨_, rfl, ?_⟩; have n0_ := Aside0.mk (below_step (by repeat (first | (with_reducible first | exact HB.out | apply below_alloc | apply pw_below_drewN | apply below_drew1) | exact HB.out)) hb); clear HB; have HB := n0_; clear n0_; (try clear hb); (try clear hb2); (try clear hk); (try clear hi)) | ((with_reducible refine gate_callee (f := 44) rfl ?_); refine goesL_ (some 12) rfl rfl Tryd.func44 (by kernel_rfl) rfl #[.int .i64 (wrap64 (-(Int.tmod a0 10)))] rfl (by (try simp only [List.map_toArray, List.map_cons, List.map_nil]); first | done | rfl | (simp only [List.length_drop, List.length_take]; rfl)) ?_; (with_reducible refine (ih k (by omega) (wrap64 (-(Int.tmod a0 10))) t102 _ A4.out).mono ?_); rintro e w7 ⟨rfl, hb⟩; refine ⟨_, rfl, ?_⟩; have n0_ := Aside0.mk (below_step (by repeat (first | (with_reducible first | exact HB.out | apply below_alloc | apply pw_below_drewN | apply below_drew1) | exact HB.out)) hb); clear HB; have HB := n0_; clear n0_; (try clear hb); (try clear hb2); (try clear hk); (try clear hi)))
      go_ret
      exact ⟨by first | rfl | (simp [errW_none, errW_some] <;> rfl) | (simp [*, errW_none, errW_some] <;> rfl), by repeat (first | (with_reducible first | exact HB.out | apply below_alloc | apply pw_below_drewN | apply below_drew1) | exact HB.out)⟩
    · rw [if_neg c5] at H
      exact absurd H (by simp)
  · rw [if_neg c2] at H
    have c2b0 : decide (a0 < (-9)) = false := decide_eq_false c2
    clear c2
    by_cases c8 : a0 < 0
    · rw [if_pos c8] at H
      have c8b0 : decide (a0 < 0) = true := decide_eq_true c8
      clear c8
      replace H := Option.bind_eq_some_iff.mp H
      obtain ⟨t103, A90, H⟩ := H
      replace H : (if 1 + t103.size ≤ 9223372036854775807 then (some ((⟨#[45]⟩ : ByteArray) ++ t103)) else (none)) = some r := H
      have A9 := Aside0.mk A90
      clear A90
      by_cases c10 : 1 + t103.size ≤ 9223372036854775807
      · rw [if_pos c10] at H
        have c10b0 := eq_true c10
        have c10b1 : decide (1 + t103.size ≤ 9223372036854775807) = true := decide_eq_true c10
        try have c10b2 : (9223372036854775807 < 1 + t103.size) = False := eq_false (Nat.not_lt.2 c10)
        obtain rfl := Option.some.inj H
        go_enter Tryd.func44, Tryd.ntmps44
        go_wp2_with (first | ((with_reducible refine gate_callee (f := 44) rfl ?_); refine goesL_ (some 18) rfl rfl Tryd.func44 (by kernel_rfl) rfl #[.int .i64 (wrap64 (-a0))] rfl (by (try simp only [List.map_toArray, List.map_cons, List.map_nil]); first | done | rfl | (simp only [List.length_drop, List.length_take]; rfl)) ?_; (with_reducible refine (ih k (by omega) (wrap64 (-a0)) t103 _ A9.out).mono ?_); rintro e w11 ⟨rfl, hb⟩; refine ⟨_, rfl, ?_⟩; have n0_ := Aside0.mk (below_step (by repeat (first | (with_reducible first | exact HB.out | apply below_alloc | apply pw_below_drewN | apply below_drew1) | exact HB.out)) hb); clear HB; have HB := n0_; clear n0_; (try clear hb); (try clear hb2); (try clear hk); (try clear hi)))
        go_ret
        exact ⟨by first | rfl | (simp [errW_none, errW_some] <;> rfl) | (simp [*, errW_none, errW_some] <;> rfl), by repeat (first | (with_reducible first | exact HB.out | apply below_alloc | apply pw_below_drewN | apply below_drew1) | exact HB.out)⟩
      · rw [if_neg c10] at H
        exact absurd H (by simp)
    · rw [if_neg c8] at H
      have c8b0 : decide (a0 < 0) = false := decide_eq_false c8
      clear c8
      by_cases c12 : a0 < 10
      · rw [if_pos c12] at H
        have c12b0 : decide (a0 < 10) = true := decide_eq_true c12
        clear c12
        by_cases c13 : 0 ≤ a0
        · rw [if_pos c13] at H
          have c13b0 := eq_true c13
          have c13b1 : decide (0 ≤ a0) = true := decide_eq_true c13
          clear c13
          by_cases c14 : a0 ≤ (wrap64 (a0 + 1))
          · rw [if_pos c14] at H
            have c14b0 := eq_true c14
            have c14b1 : decide (a0 ≤ (wrap64 (a0 + 1))) = true := decide_eq_true c14
            by_cases c15 : (wrap64 (a0 + 1)) ≤ 10
            · rw [if_pos c15] at H
              have c15b0 := eq_true c15
              have c15b1 : decide ((wrap64 (a0 + 1)) ≤ 10) = true := decide_eq_true c15
              obtain rfl := Option.some.inj H
              go_enter Tryd.func44, Tryd.ntmps44
              go_wp2
              go_ret
              exact ⟨by first | rfl | (simp [errW_none, errW_some] <;> rfl) | (simp [*, errW_none, errW_some] <;> rfl), by repeat (first | (with_reducible first | exact HB.out | apply below_alloc | apply pw_below_drewN | apply below_drew1) | exact HB.out)⟩
            · rw [if_neg c15] at H
              exact absurd H (by simp)
          · rw [if_neg c14] at H
            exact absurd H (by simp)
        · rw [if_neg c13] at H
          exact absurd H (by simp)
      · rw [if_neg c12] at H
        have c12b0 : decide (a0 < 10) = false := decide_eq_false c12
        clear c12
        replace H := Option.bind_eq_some_iff.mp H
        obtain ⟨t104, A160, H⟩ := H
        replace H : (if 0 ≤ (Int.tmod a0 10) then (if (Int.tmod a0 10) ≤ (wrap64 ((Int.tmod a0 10) + 1)) then (if (wrap64 ((Int.tmod a0 10) + 1)) ≤ 10 then (if t104.size + ((⟨#[48, 49, 50, 51, 52, 53, 54, 55, 56, 57]⟩ : ByteArray).extract ((Int.tmod a0 10) : Int).toNat ((wrap64 ((Int.tmod a0 10) + 1)) : Int).toNat).size ≤ 9223372036854775807 then (some (t104 ++ ((⟨#[48, 49, 50, 51, 52, 53, 54, 55, 56, 57]⟩ : ByteArray).extract ((Int.tmod a0 10) : Int).toNat ((wrap64 ((Int.tmod a0 10) + 1)) : Int).toNat))) else (none)) else (none)) else (none)) else (none)) = some r := H
        have A16 := Aside0.mk A160
        clear A160
        obtain ⟨ji17, hji17⟩ : ∃ j_ : Int, (Int.tmod a0 10) = j_ := ⟨_, rfl⟩
        replace H : (if 0 ≤ (ji17) then (if (ji17) ≤ (wrap64 ((ji17) + 1)) then (if (wrap64 ((ji17) + 1)) ≤ 10 then (if t104.size + ((⟨#[48, 49, 50, 51, 52, 53, 54, 55, 56, 57]⟩ : ByteArray).extract ((ji17) : Int).toNat ((wrap64 ((ji17) + 1)) : Int).toNat).size ≤ 9223372036854775807 then (some (t104 ++ ((⟨#[48, 49, 50, 51, 52, 53, 54, 55, 56, 57]⟩ : ByteArray).extract ((ji17) : Int).toNat ((wrap64 ((ji17) + 1)) : Int).toNat))) else (none)) else (none)) else (none)) else (none)) = some r := by first | (rw [hji17] at H; exact H) | (simp only [hji17] at H ⊢; exact H)
        (try rw [hji17] at A16)
        by_cases c18 : 0 ≤ (ji17)
        · rw [if_pos c18] at H
          have c18b0 := eq_true c18
          have c18b1 : decide (0 ≤ (ji17)) = true := decide_eq_true c18
          clear c18
          by_cases c19 : (ji17) ≤ (wrap64 ((ji17) + 1))
          · rw [if_pos c19] at H
            have c19b0 := eq_true c19
            have c19b1 : decide ((ji17) ≤ (wrap64 ((ji17) + 1))) = true := decide_eq_true c19
            by_cases c20 : (wrap64 ((ji17) + 1)) ≤ 10
            · rw [if_pos c20] at H
              have c20b0 := eq_true c20
              have c20b1 : decide ((wrap64 ((ji17) + 1)) ≤ 10) = true := decide_eq_true c20
              by_cases c21 : t104.size + ((⟨#[48, 49, 50, 51, 52, 53, 54, 55, 56, 57]⟩ : ByteArray).extract ((ji17) : Int).toNat ((wrap64 ((ji17) + 1)) : Int).toNat).size ≤ 9223372036854775807
              · rw [if_pos c21] at H
                have c21b0 := eq_true c21
                have c21b1 : decide (t104.size + ((⟨#[48, 49, 50, 51, 52, 53, 54, 55, 56, 57]⟩ : ByteArray).extract ((ji17) : Int).toNat ((wrap64 ((ji17) + 1)) : Int).toNat).size ≤ 9223372036854775807) = true := decide_eq_true c21
                try have c21b2 : (9223372036854775807 < t104.size + ((⟨#[48, 49, 50, 51, 52, 53, 54, 55, 56, 57]⟩ : ByteArray).extract ((ji17) : Int).toNat ((wrap64 ((ji17) + 1)) : Int).toNat).size) = False := eq_false (Nat.not_lt.2 c21)
                have c21b3 : (9223372036854775807 < t104.size + (((wrap64 ((ji17) + 1)) : Int).toNat - ((ji17) : Int).toNat)) = False := by
                  have hs_ := c21
                  rw [ByteArray.size_extract] at hs_
                  exact eq_false (by have : (⟨#[48, 49, 50, 51, 52, 53, 54, 55, 56, 57]⟩ : ByteArray).size = 10 := rfl; omega)
                obtain rfl := Option.some.inj H
                go_enter Tryd.func44, Tryd.ntmps44
                try go_wp2
                have n0_ := Aside0.mk (below_drew1 HB.out)
                clear HB
                have HB := n0_
                clear n0_
                refine start_ (n := 12) (S := fun w' => True) (ds := []) #[false, false, false, false, false, false, false, false, false, false, false, false] (by kernel_rfl) rfl rfl trivial (fun hHeld => ?_); refine with_tabW pyxref02_Decimal.tab8 pyxref02_Decimal.bits8 (fun HT_ HW_ => ?_)
                generalize w.drew = w22 at HB hHeld ⊢
                refine pure_ (i := 0) (N := some 27) (v := ?_) (a' := ?_) #[true, false, false, false, false, false, false, false, false, false, false, false] rfl rfl (any_of HT_.out (by kernel_rfl)) (fun _ _ _ h => h) (Or.inl ⟨by rfl, ?_⟩) ?_ ?_
                rotate_left
                · intro w'
                  go_simp
                  with_reducible rfl
                rotate_left
                · simp only [Act.put, List.setIfInBounds_toArray, List.set_cons_zero, List.set_cons_succ, i64_w, i32_w]
                  rfl
                refine pure_ (i := 1) (N := some 28) (v := ?_) (a' := ?_) #[true, true, false, false, false, false, false, false, false, false, false, false] rfl rfl (any_of HT_.out (by kernel_rfl)) (fun _ _ _ h => h) (Or.inl ⟨by rfl, ?_⟩) ?_ ?_
                rotate_left
                · intro w'
                  go_simp
                  with_reducible rfl
                rotate_left
                · simp only [Act.put, List.setIfInBounds_toArray, List.set_cons_zero, List.set_cons_succ, i64_w, i32_w]
                  rfl
                refine pure_ (i := 3) (N := some 30) (v := ?_) (a' := ?_) #[true, true, false, true, false, false, false, false, false, false, false, false] rfl rfl (any_of HT_.out (by kernel_rfl)) (fun _ _ _ h => h) (Or.inl ⟨by rfl, ?_⟩) ?_ ?_
                rotate_left
                · intro w'
                  go_simp
                  with_reducible rfl
                rotate_left
                · simp only [Act.put, List.setIfInBounds_toArray, List.set_cons_zero, List.set_cons_succ, i64_w, i32_w]
                  rfl
                refine pure_ (i := 4) (N := some 31) (v := ?_) (a' := ?_) #[true, true, false, true, true, false, false, false, false, false, false, false] rfl rfl (any_of HT_.out (by kernel_rfl)) (fun _ _ _ h => h) (Or.inl ⟨by rfl, ?_⟩) ?_ ?_
                rotate_left
                · intro w'
                  go_simp
                  with_reducible rfl
                rotate_left
                · simp only [Act.put, List.setIfInBounds_toArray, List.set_cons_zero, List.set_cons_succ, i64_w, i32_w]
                  rfl
                refine pure_ (i := 5) (N := some 32) (v := ?_) (a' := ?_) #[true, true, false, true, true, true, false, false, false, false, false, false] rfl rfl (any_of HT_.out (by kernel_rfl)) (fun _ _ _ h => h) (Or.inl ⟨by rfl, ?_⟩) ?_ ?_
                rotate_left
                · intro w'
                  go_simp
                  with_reducible rfl
                rotate_left
                · simp only [Act.put, List.setIfInBounds_toArray, List.set_cons_zero, List.set_cons_succ, i64_w, i32_w]
                  rfl
                refine pure_ (i := 6) (N := some 33) (v := ?_) (a' := ?_) #[true, true, false, true, true, true, true, false, false, false, false, false] rfl rfl (any_of HT_.out (by kernel_rfl)) (fun _ _ _ h => h) (Or.inl ⟨by rfl, ?_⟩) ?_ ?_
                rotate_left
                · intro w'
                  go_simp
                  with_reducible rfl
                rotate_left
                · simp only [Act.put, List.setIfInBounds_toArray, List.set_cons_zero, List.set_cons_succ, i64_w, i32_w]
                  rfl
                refine pure_ (i := 7) (N := some 34) (v := ?_) (a' := ?_) #[true, true, false, true, true, true, true, true, false, false, false, false] rfl rfl (any_of HT_.out (by kernel_rfl)) (fun _ _ _ h => h) (Or.inl ⟨by rfl, ?_⟩) ?_ ?_
                rotate_left
                · intro w'
                  go_simp
                  with_reducible rfl
                rotate_left
                · simp only [Act.put, List.setIfInBounds_toArray, List.set_cons_zero, List.set_cons_succ, i64_w, i32_w]
                  rfl
                refine pure_ (i := 8) (N := some 35) (v := ?_) (a' := ?_) #[true, true, false, true, true, true, true, true, true, false, false, false] rfl rfl (any_of HT_.out (by kernel_rfl)) (fun _ _ _ h => h) (Or.inl ⟨by rfl, ?_⟩) ?_ ?_
                rotate_left
                · intro w'
                  go_simp
                  with_reducible rfl
                rotate_left
                · simp only [Act.put, List.setIfInBounds_toArray, List.set_cons_zero, List.set_cons_succ, i64_w, i32_w]
                  rfl
                refine pure_ (i := 9) (N := some 36) (v := ?_) (a' := ?_) #[true, true, false, true, true, true, true, true, true, true, false, false] rfl rfl (any_of HT_.out (by kernel_rfl)) (fun _ _ _ h => h) (Or.inl ⟨by rfl, ?_⟩) ?_ ?_
                rotate_left
                · intro w'
                  go_simp
                  with_reducible rfl
                rotate_left
                · simp only [Act.put, List.setIfInBounds_toArray, List.set_cons_zero, List.set_cons_succ, i64_w, i32_w]
                  rfl
                refine one_ (i := 2) (N := some 29) #[true, true, true, true, true, true, true, true, true, true, false, false] rfl rfl (one_of HT_.out (by kernel_rfl)) (by decide) (fun K hK => ?_)
                refine goes_ Tryd.func44 (by kernel_rfl) rfl #[.int .i64 (wrap64 (Int.tdiv a0 10))] (by rfl) rfl rfl (by (try simp only [List.map_toArray, List.map_cons, List.map_nil]); first | done | rfl | (simp only [List.length_drop, List.length_take]; rfl)) ?_
                with_reducible refine (ih k (by omega) (wrap64 (Int.tdiv a0 10)) t104 _ A16.out).mono ?_
                rintro e w23 ⟨rfl, hb⟩
                refine ⟨_, rfl, ?_⟩
                have n0_ := Aside0.mk (below_step (by repeat (first | (with_reducible first | exact HB.out | apply below_alloc | apply pw_below_drewN | apply below_drew1) | exact HB.out)) hb)
                clear HB
                have HB := n0_
                clear n0_
                (try clear hb)
                (try clear hb2)
                (try clear hk)
                (try clear hi)
                refine hK.out _ _ trivial (fun hHeld => ?_)
                clear hK K
                refine norm_ (a' := ?_) ?_ ?_
                rotate_left
                · show Act.put _ (some 29) _ = _
                  simp only [Act.put, List.setIfInBounds_toArray, List.set_cons_zero, List.set_cons_succ, i64_w, i32_w]
                  rfl
                refine pure_ (i := 10) (N := some 37) (v := ?_) (a' := ?_) #[true, true, true, true, true, true, true, true, true, true, true, false] rfl rfl (any_of HT_.out (by kernel_rfl)) (fun _ _ _ h => h) (Or.inl ⟨by rfl, ?_⟩) ?_ ?_
                rotate_left
                · intro w'
                  go_simp
                  with_reducible rfl
                rotate_left
                · simp only [Act.put, List.setIfInBounds_toArray, List.set_cons_zero, List.set_cons_succ, i64_w, i32_w]
                  rfl
                refine pure_ (i := 11) (N := some 2) (v := ?_) (a' := ?_) #[true, true, true, true, true, true, true, true, true, true, true, true] rfl rfl (any_of HT_.out (by kernel_rfl)) (fun _ _ _ h => h) (Or.inl ⟨by rfl, ?_⟩) ?_ ?_
                rotate_left
                · intro w'
                  go_simp
                  with_reducible rfl
                rotate_left
                · simp only [Act.put, List.setIfInBounds_toArray, List.set_cons_zero, List.set_cons_succ, i64_w, i32_w]
                  rfl
                refine done_ (done_of HT_.out (by kernel_rfl)) ?_
                try go_wp2
                go_ret
                exact ⟨by first | rfl | (simp [errW_none, errW_some] <;> rfl) | (simp only [← hji17]; first | rfl | (simp [errW_none, errW_some] <;> rfl)) | (simp [*, errW_none, errW_some] <;> rfl), by repeat (first | (with_reducible first | exact HB.out | apply below_alloc | apply pw_below_drewN | apply below_drew1) | exact HB.out)⟩
              · rw [if_neg c21] at H
                exact absurd H (by simp)
            · rw [if_neg c20] at H
              exact absurd H (by simp)
          · rw [if_neg c19] at H
            exact absurd H (by simp)
        · rw [if_neg c18] at H
          exact absurd H (by simp)

end Go.Proofs.YtjoncjnmhhimhaaDoor.PDec
end

section
/- The library's contracts that this place uses, at this program's numbers, in plain words: written by the kit's shelf tools. -/
namespace Go.Proofs
open Go.Shelf
def Tryd.lays156_ren : Go.Shelf.Ren := ⟨fun | 156 => 41 | 165 => 64 | 166 => 65 | 169 => 66 | 240 => 83 | 241 => 84 | 276 => 97 | 277 => 98 | n => n, fun | 31 => 59 | 9 => 9 | 3 => 3 | 4 => 4 | 0 => 0 | 20 => 20 | 72 => 85 | 76 => 87 | 70 => 83 | 37 => 30 | 75 => 63 | 127 => 106 | 164 => 119 | 5 => 5 | 80 => 89 | n => n, fun | n => n⟩
theorem Tryd.lays156 : Go.Proofs.Lays.n156 Tryd.prog Tryd.lays156_ren := {
  mixed := by kernel_rfl
  f156 := Tryd.func41.trans (congrArg some (by kernel_rfl))
  f165 := Tryd.func64.trans (congrArg some (by kernel_rfl))
  f166 := Tryd.func65.trans (congrArg some (by kernel_rfl))
  f169 := Tryd.func66.trans (congrArg some (by kernel_rfl))
  f240 := Tryd.func83.trans (congrArg some (by kernel_rfl))
  f241 := Tryd.func84.trans (congrArg some (by kernel_rfl))
  f276 := Tryd.func97.trans (congrArg some (by kernel_rfl))
  f277 := Tryd.func98.trans (congrArg some (by kernel_rfl))
  t0 := Tryd.underlying0
  a0 := Tryd.isAgg0
  z0 := Tryd.sizeOf0
  v0 := Tryd.zeroValue0
  t3 := Tryd.underlying3
  a3 := Tryd.isAgg3
  z3 := Tryd.sizeOf3
  v3 := Tryd.zeroValue3
  t4 := Tryd.underlying4
  a4 := Tryd.isAgg4
  z4 := Tryd.sizeOf4
  v4 := Tryd.zeroValue4
  t9 := Tryd.underlying9
  a9 := Tryd.isAgg9
  z9 := Tryd.sizeOf9
  v9 := Tryd.zeroValue9
  t20 := Tryd.underlying20
  a20 := Tryd.isAgg20
  z20 := Tryd.sizeOf20
  v20 := Tryd.zeroValue20
  t31 := Tryd.underlying59
  a31 := Tryd.isAgg59
  z31 := Tryd.sizeOf59
  v31 := Tryd.zeroValue59
  t37 := Tryd.underlying30
  a37 := Tryd.isAgg30
  z37 := Tryd.sizeOf30
  v37 := Tryd.zeroValue30
  t70 := Tryd.underlying83
  a70 := Tryd.isAgg83
  z70 := Tryd.sizeOf83
  v70 := Tryd.zeroValue83
  t72 := Tryd.underlying85
  a72 := Tryd.isAgg85
  z72 := Tryd.sizeOf85
  v72 := Tryd.zeroValue85
  t75 := Tryd.underlying63
  a75 := Tryd.isAgg63
  z75 := Tryd.sizeOf63
  v75 := Tryd.zeroValue63
  t76 := Tryd.underlying87
  a76 := Tryd.isAgg87
  z76 := Tryd.sizeOf87
  v76 := Tryd.zeroValue87
  t127 := Tryd.underlying106
  a127 := Tryd.isAgg106
  z127 := Tryd.sizeOf106
  v127 := Tryd.zeroValue106
  t164 := Tryd.underlying119
  a164 := Tryd.isAgg119
  z164 := Tryd.sizeOf119
  v164 := Tryd.zeroValue119 }
theorem Tryd.Builder_Extra_156 : Builder.Extra Tryd.prog Tryd.lays156_ren := {
  sizeBuilder := by kernel_rfl
  liesBuilder := by kernel_rfl
  t5 := Tryd.underlying5
  a5 := Tryd.isAgg5
  z5 := Tryd.sizeOf5
  v5 := Tryd.zeroValue5
  infoByte := by kernel_rfl
  cellsByte := by kernel_rfl
  sizeByte := by kernel_rfl
  neB5 := by decide }
open Go.RowKit in
theorem Tryd.strings_Join_none (a : Option Addr) (c : Nat) (sep : ByteArray) (w : World) :
    Calls Tryd.prog 41 #[.slice a 0 c, .string sep] w fun e w' => e = .returned (.string ⟨#[]⟩) ∧ w' = w := Any.strings_Join_none Tryd.lays156 Tryd.Builder_Extra_156 a c sep w
open Go.RowKit in
theorem Tryd.strings_Join (bk o c : Nat) (xs : List ByteArray) (sep : ByteArray) (w : World) (hcells : ∀ (j : Nat) x, xs[j]? = some x → w.cell? ⟨bk, o + j, none⟩ = some (.string x)) (hbk : bk < w.heap.size) (hN : xs.length ≤ 140737488355328) (hcap : xs.length ≤ c) (hlen : (Lib.join (xs.map (·.data.toList)) sep.data.toList).length ≤ 140737488355328) :
    Calls Tryd.prog 41 #[.slice (some ⟨bk, o, none⟩) xs.length c, .string sep] w fun e w' => e = .returned (.string ⟨(Lib.join (xs.map (·.data.toList)) sep.data.toList).toArray⟩) ∧ Below w.heap.size w w' := Any.strings_Join Tryd.lays156 Tryd.Builder_Extra_156 bk o c xs sep w hcells hbk hN hcap hlen
def Tryd.lays283_ren : Go.Shelf.Ren := ⟨fun | 283 => 79 | n => n, fun | 3 => 3 | 9 => 9 | 4 => 4 | n => n, fun | n => n⟩
theorem Tryd.lays283 : Go.Proofs.Lays.n283 Tryd.prog Tryd.lays283_ren := {
  mixed := by kernel_rfl
  f283 := Tryd.func79.trans (congrArg some (by kernel_rfl))
  t3 := Tryd.underlying3
  a3 := Tryd.isAgg3
  z3 := Tryd.sizeOf3
  v3 := Tryd.zeroValue3
  t4 := Tryd.underlying4
  a4 := Tryd.isAgg4
  z4 := Tryd.sizeOf4
  v4 := Tryd.zeroValue4
  t9 := Tryd.underlying9
  a9 := Tryd.isAgg9
  z9 := Tryd.sizeOf9
  v9 := Tryd.zeroValue9 }
open Go.Lib in
theorem Tryd.internal_strconv_small (i : Nat) (h : i < 100) (w : World) :
    Calls Tryd.prog 79 #[.int .i64 i] w fun e w' => e = .returned (.string ⟨(Lib.decDigits i).toArray⟩) ∧ w' = w := Any.internal_strconv_small Tryd.lays283 i h w
def Tryd.laysM284_ren : Go.Shelf.Ren := ⟨fun | 284 => 80 | 129 => 93 | 317 => 92 | 318 => 94 | n => n, fun | 53 => 61 | 3 => 3 | 212 => 116 | 0 => 0 | 4 => 4 | 46 => 69 | 5 => 5 | 9 => 9 | n => n, fun | 17 => 2 | n => n⟩
theorem Tryd.laysM284 : Go.Proofs.LaysM.n284 Tryd.prog Tryd.laysM284_ren := {
  mixed := by kernel_rfl
  f129 := Tryd.func93.trans (congrArg some (by kernel_rfl))
  f284 := Tryd.func80.trans (congrArg some (by kernel_rfl))
  f317 := Tryd.func92.trans (congrArg some (by kernel_rfl))
  f318 := Tryd.func94.trans (congrArg some (by kernel_rfl))
  t0 := Tryd.underlying0
  a0 := Tryd.isAgg0
  z0 := Tryd.sizeOf0
  v0 := Tryd.zeroValue0
  t3 := Tryd.underlying3
  a3 := Tryd.isAgg3
  z3 := Tryd.sizeOf3
  v3 := Tryd.zeroValue3
  t4 := Tryd.underlying4
  a4 := Tryd.isAgg4
  z4 := Tryd.sizeOf4
  v4 := Tryd.zeroValue4
  t5 := Tryd.underlying5
  a5 := Tryd.isAgg5
  z5 := Tryd.sizeOf5
  v5 := Tryd.zeroValue5
  t9 := Tryd.underlying9
  a9 := Tryd.isAgg9
  z9 := Tryd.sizeOf9
  v9 := Tryd.zeroValue9
  t46 := Tryd.underlying69
  a46 := Tryd.isAgg69
  z46 := Tryd.sizeOf69
  v46 := Tryd.zeroValue69
  t53 := Tryd.underlying61
  a53 := Tryd.isAgg61
  z53 := Tryd.sizeOf61
  v53 := Tryd.zeroValue61
  t212 := Tryd.underlying116
  a212 := Tryd.isAgg116
  z212 := Tryd.sizeOf116
  v212 := Tryd.zeroValue116
  g17 := by kernel_rfl
  i0 := by kernel_rfl
  i3 := by kernel_rfl
  i4 := by kernel_rfl
  i5 := by kernel_rfl
  i9 := by kernel_rfl
  i46 := by kernel_rfl
  i53 := by kernel_rfl
  i212 := by kernel_rfl
  m17 := by kernel_rfl }
open Go.Lib in
theorem Tryd.internal_strconv_numDigits (u : Nat) (h1 : 1 ≤ u) (h2 : u < 18446744073709551616) (w : World) (htab : Lib.TabIs Tryd.prog w "internal/strconv.uint64pow10" .u64 Lib.pow10Tab) :
    Calls Tryd.prog 80 #[.int .u64 u] w fun e w' => e = .returned (.int .i64 (Lib.nDigits u)) ∧ w' = w := Any.internal_strconv_numDigits Tryd.laysM284 u h1 h2 w htab
def Tryd.lays285_ren : Go.Shelf.Ren := ⟨fun | 285 => 81 | n => n, fun | 37 => 30 | 53 => 61 | 3 => 3 | 4 => 4 | 51 => 27 | 9 => 9 | 5 => 5 | 0 => 0 | n => n, fun | n => n⟩
theorem Tryd.lays285 : Go.Proofs.Lays.n285 Tryd.prog Tryd.lays285_ren := {
  mixed := by kernel_rfl
  f285 := Tryd.func81.trans (congrArg some (by kernel_rfl))
  t0 := Tryd.underlying0
  a0 := Tryd.isAgg0
  z0 := Tryd.sizeOf0
  v0 := Tryd.zeroValue0
  t3 := Tryd.underlying3
  a3 := Tryd.isAgg3
  z3 := Tryd.sizeOf3
  v3 := Tryd.zeroValue3
  t4 := Tryd.underlying4
  a4 := Tryd.isAgg4
  z4 := Tryd.sizeOf4
  v4 := Tryd.zeroValue4
  t5 := Tryd.underlying5
  a5 := Tryd.isAgg5
  z5 := Tryd.sizeOf5
  v5 := Tryd.zeroValue5
  t9 := Tryd.underlying9
  a9 := Tryd.isAgg9
  z9 := Tryd.sizeOf9
  v9 := Tryd.zeroValue9
  t37 := Tryd.underlying30
  a37 := Tryd.isAgg30
  z37 := Tryd.sizeOf30
  v37 := Tryd.zeroValue30
  t51 := Tryd.underlying27
  a51 := Tryd.isAgg27
  z51 := Tryd.sizeOf27
  v51 := Tryd.zeroValue27
  t53 := Tryd.underlying61
  a53 := Tryd.isAgg61
  z53 := Tryd.sizeOf61
  v53 := Tryd.zeroValue61 }
open Go.RowKit Go.Sort Go.Lib in
theorem Tryd.internal_strconv_formatBase10 (blk off cap : Nat) (u : Nat) (d : Array UInt8) (w : World) (hH : Holds (fun (b : UInt8) => Value.int .u8 (b.toNat : Int)) w blk off d) (hu : u < 10 ^ d.size) (hu64 : u < 18446744073709551616) (hsz : d.size < 4611686018427387904) :
    Calls Tryd.prog 81 #[.slice (some ⟨blk, off, none⟩) d.size cap, .int .u64 u] w fun e w' =>
      e = .returned (.tuple #[]) ∧ ∃ (n v' : Nat) (dk : Array UInt8), w' = (putRow (fun (b : UInt8) => Value.int .u8 (b.toNat : Int)) w blk off dk).drewN n ∧ FmtInv d.size u 0 v' dk := Any.internal_strconv_formatBase10 Tryd.lays285 blk off cap u d w hH hu hu64 hsz
def Tryd.laysM171_ren : Go.Shelf.Ren := ⟨fun | 171 => 68 | 243 => 85 | 246 => 99 | 283 => 79 | 284 => 80 | 285 => 81 | 286 => 82 | 129 => 93 | 317 => 92 | 318 => 94 | 319 => 95 | 320 => 96 | 337 => 105 | 338 => 106 | n => n, fun | 3 => 3 | 9 => 9 | 2 => 2 | 4 => 4 | 171 => 101 | 0 => 0 | 53 => 61 | 37 => 30 | 5 => 5 | 173 => 104 | 212 => 116 | 51 => 27 | 20 => 20 | 213 => 117 | 46 => 69 | 232 => 132 | 233 => 133 | n => n, fun | 17 => 2 | 18 => 6 | 19 => 7 | n => n⟩
theorem Tryd.laysM171 : Go.Proofs.LaysM.n171 Tryd.prog Tryd.laysM171_ren := {
  mixed := by kernel_rfl
  f129 := Tryd.func93.trans (congrArg some (by kernel_rfl))
  f171 := Tryd.func68.trans (congrArg some (by kernel_rfl))
  f243 := Tryd.func85.trans (congrArg some (by kernel_rfl))
  f246 := Tryd.func99.trans (congrArg some (by kernel_rfl))
  f283 := Tryd.func79.trans (congrArg some (by kernel_rfl))
  f284 := Tryd.func80.trans (congrArg some (by kernel_rfl))
  f285 := Tryd.func81.trans (congrArg some (by kernel_rfl))
  f286 := Tryd.func82.trans (congrArg some (by kernel_rfl))
  f317 := Tryd.func92.trans (congrArg some (by kernel_rfl))
  f318 := Tryd.func94.trans (congrArg some (by kernel_rfl))
  f319 := Tryd.func95.trans (congrArg some (by kernel_rfl))
  f320 := Tryd.func96.trans (congrArg some (by kernel_rfl))
  f337 := Tryd.func105.trans (congrArg some (by kernel_rfl))
  f338 := Tryd.func106.trans (congrArg some (by kernel_rfl))
  t0 := Tryd.underlying0
  a0 := Tryd.isAgg0
  z0 := Tryd.sizeOf0
  v0 := Tryd.zeroValue0
  t2 := Tryd.underlying2
  a2 := Tryd.isAgg2
  z2 := Tryd.sizeOf2
  v2 := Tryd.zeroValue2
  t3 := Tryd.underlying3
  a3 := Tryd.isAgg3
  z3 := Tryd.sizeOf3
  v3 := Tryd.zeroValue3
  t4 := Tryd.underlying4
  a4 := Tryd.isAgg4
  z4 := Tryd.sizeOf4
  v4 := Tryd.zeroValue4
  t5 := Tryd.underlying5
  a5 := Tryd.isAgg5
  z5 := Tryd.sizeOf5
  v5 := Tryd.zeroValue5
  t9 := Tryd.underlying9
  a9 := Tryd.isAgg9
  z9 := Tryd.sizeOf9
  v9 := Tryd.zeroValue9
  t20 := Tryd.underlying20
  a20 := Tryd.isAgg20
  z20 := Tryd.sizeOf20
  v20 := Tryd.zeroValue20
  t37 := Tryd.underlying30
  a37 := Tryd.isAgg30
  z37 := Tryd.sizeOf30
  v37 := Tryd.zeroValue30
  t46 := Tryd.underlying69
  a46 := Tryd.isAgg69
  z46 := Tryd.sizeOf69
  v46 := Tryd.zeroValue69
  t51 := Tryd.underlying27
  a51 := Tryd.isAgg27
  z51 := Tryd.sizeOf27
  v51 := Tryd.zeroValue27
  t53 := Tryd.underlying61
  a53 := Tryd.isAgg61
  z53 := Tryd.sizeOf61
  v53 := Tryd.zeroValue61
  t171 := Tryd.underlying101
  a171 := Tryd.isAgg101
  z171 := Tryd.sizeOf101
  v171 := Tryd.zeroValue101
  t173 := Tryd.underlying104
  a173 := Tryd.isAgg104
  z173 := Tryd.sizeOf104
  v173 := Tryd.zeroValue104
  t212 := Tryd.underlying116
  a212 := Tryd.isAgg116
  z212 := Tryd.sizeOf116
  v212 := Tryd.zeroValue116
  t213 := Tryd.underlying117
  a213 := Tryd.isAgg117
  z213 := Tryd.sizeOf117
  t232 := Tryd.underlying132
  a232 := Tryd.isAgg132
  z232 := Tryd.sizeOf132
  v232 := Tryd.zeroValue132
  t233 := Tryd.underlying133
  a233 := Tryd.isAgg133
  z233 := Tryd.sizeOf133
  v233 := Tryd.zeroValue133
  g17 := by kernel_rfl
  g18 := by kernel_rfl
  g19 := by kernel_rfl
  i0 := by kernel_rfl
  i2 := by kernel_rfl
  i3 := by kernel_rfl
  i4 := by kernel_rfl
  i5 := by kernel_rfl
  i9 := by kernel_rfl
  i20 := by kernel_rfl
  i37 := by kernel_rfl
  i46 := by kernel_rfl
  i51 := by kernel_rfl
  i53 := by kernel_rfl
  i171 := by kernel_rfl
  i173 := by kernel_rfl
  i212 := by kernel_rfl
  i232 := by kernel_rfl
  i233 := by kernel_rfl
  m17 := by kernel_rfl
  m18 := by kernel_rfl
  m19 := by kernel_rfl }
open Go.RowKit Go.Sort Go.Lib in
theorem Tryd.strconv_Itoa (n : Int) (h0 : -9223372036854775808 ≤ n) (h1 : n ≤ 9223372036854775807) (w : World) (htab : Lib.TabIs Tryd.prog w "internal/strconv.uint64pow10" .u64 Lib.pow10Tab) :
    Calls Tryd.prog 68 #[.int .i64 n] w fun e w' => e = .returned (.string ⟨(Lib.itoa n).toArray⟩) ∧ ∃ k os, w' = grow (w.drewN k) os := Any.strconv_Itoa Tryd.laysM171 n h0 h1 w htab
def Tryd.laysPu14_ren : Go.Shelf.Ren := ⟨fun | 14 => 38 | 16 => 61 | 17 => 62 | 19 => 73 | 20 => 74 | 21 => 75 | 22 => 76 | 23 => 77 | 24 => 78 | 25 => 90 | 27 => 68 | 26 => 91 | 28 => 85 | 29 => 99 | 30 => 79 | 31 => 80 | 32 => 81 | 33 => 82 | 35 => 93 | 34 => 92 | 36 => 94 | 37 => 95 | 38 => 96 | 39 => 105 | 40 => 106 | n => n, fun | 9 => 9 | 3 => 3 | 22 => 61 | 24 => 63 | 25 => 64 | 4 => 4 | 34 => 96 | 5 => 5 | 36 => 69 | 37 => 30 | 0 => 0 | 39 => 98 | 21 => 21 | 44 => 112 | 47 => 106 | 50 => 124 | 48 => 122 | 2 => 2 | 52 => 101 | 55 => 104 | 59 => 116 | 60 => 27 | 20 => 20 | 61 => 117 | 65 => 132 | 66 => 133 | 67 => 89 | n => n, fun | 0 => 0 | 1 => 1 | 2 => 2 | 3 => 6 | 4 => 7 | n => n⟩
theorem Tryd.laysPu14 : Go.Proofs.LaysPu.n14 Tryd.prog Tryd.laysPu14_ren := {
  mixed := by kernel_rfl
  f14 := Tryd.func38.trans (congrArg some (by kernel_rfl))
  f16 := Tryd.func61.trans (congrArg some (by kernel_rfl))
  f17 := Tryd.func62.trans (congrArg some (by kernel_rfl))
  f19 := Tryd.func73.trans (congrArg some (by kernel_rfl))
  f20 := Tryd.func74.trans (congrArg some (by kernel_rfl))
  f21 := Tryd.func75.trans (congrArg some (by kernel_rfl))
  f22 := Tryd.func76.trans (congrArg some (by kernel_rfl))
  f23 := Tryd.func77.trans (congrArg some (by kernel_rfl))
  f24 := Tryd.func78.trans (congrArg some (by kernel_rfl))
  f25 := Tryd.func90.trans (congrArg some (by kernel_rfl))
  f26 := Tryd.func91.trans (congrArg some (by kernel_rfl))
  f27 := Tryd.func68.trans (congrArg some (by kernel_rfl))
  f28 := Tryd.func85.trans (congrArg some (by kernel_rfl))
  f29 := Tryd.func99.trans (congrArg some (by kernel_rfl))
  f30 := Tryd.func79.trans (congrArg some (by kernel_rfl))
  f31 := Tryd.func80.trans (congrArg some (by kernel_rfl))
  f32 := Tryd.func81.trans (congrArg some (by kernel_rfl))
  f33 := Tryd.func82.trans (congrArg some (by kernel_rfl))
  f34 := Tryd.func92.trans (congrArg some (by kernel_rfl))
  f35 := Tryd.func93.trans (congrArg some (by kernel_rfl))
  f36 := Tryd.func94.trans (congrArg some (by kernel_rfl))
  f37 := Tryd.func95.trans (congrArg some (by kernel_rfl))
  f38 := Tryd.func96.trans (congrArg some (by kernel_rfl))
  f39 := Tryd.func105.trans (congrArg some (by kernel_rfl))
  f40 := Tryd.func106.trans (congrArg some (by kernel_rfl))
  t0 := Tryd.underlying0
  a0 := Tryd.isAgg0
  z0 := Tryd.sizeOf0
  v0 := Tryd.zeroValue0
  i0 := by kernel_rfl
  t2 := Tryd.underlying2
  a2 := Tryd.isAgg2
  z2 := Tryd.sizeOf2
  v2 := Tryd.zeroValue2
  i2 := by kernel_rfl
  t3 := Tryd.underlying3
  a3 := Tryd.isAgg3
  z3 := Tryd.sizeOf3
  v3 := Tryd.zeroValue3
  i3 := by kernel_rfl
  t4 := Tryd.underlying4
  a4 := Tryd.isAgg4
  z4 := Tryd.sizeOf4
  v4 := Tryd.zeroValue4
  i4 := by kernel_rfl
  t5 := Tryd.underlying5
  a5 := Tryd.isAgg5
  z5 := Tryd.sizeOf5
  v5 := Tryd.zeroValue5
  i5 := by kernel_rfl
  t9 := Tryd.underlying9
  a9 := Tryd.isAgg9
  z9 := Tryd.sizeOf9
  v9 := Tryd.zeroValue9
  i9 := by kernel_rfl
  t20 := Tryd.underlying20
  a20 := Tryd.isAgg20
  z20 := Tryd.sizeOf20
  v20 := Tryd.zeroValue20
  i20 := by kernel_rfl
  t21 := Tryd.underlying21
  a21 := Tryd.isAgg21
  z21 := Tryd.sizeOf21
  v21 := Tryd.zeroValue21
  i21 := by kernel_rfl
  t22 := Tryd.underlying61
  a22 := Tryd.isAgg61
  z22 := Tryd.sizeOf61
  v22 := Tryd.zeroValue61
  i22 := by kernel_rfl
  t24 := Tryd.underlying63
  a24 := Tryd.isAgg63
  z24 := Tryd.sizeOf63
  v24 := Tryd.zeroValue63
  i24 := by kernel_rfl
  t25 := Tryd.underlying64
  a25 := Tryd.isAgg64
  z25 := Tryd.sizeOf64
  v25 := Tryd.zeroValue64
  i25 := by kernel_rfl
  t34 := Tryd.underlying96
  a34 := Tryd.isAgg96
  z34 := Tryd.sizeOf96
  v34 := Tryd.zeroValue96
  i34 := by kernel_rfl
  c34 := by kernel_rfl
  t36 := Tryd.underlying69
  a36 := Tryd.isAgg69
  z36 := Tryd.sizeOf69
  v36 := Tryd.zeroValue69
  i36 := by kernel_rfl
  t37 := Tryd.underlying30
  a37 := Tryd.isAgg30
  z37 := Tryd.sizeOf30
  v37 := Tryd.zeroValue30
  i37 := by kernel_rfl
  t39 := Tryd.underlying98
  a39 := Tryd.isAgg98
  z39 := Tryd.sizeOf98
  v39 := Tryd.zeroValue98
  i39 := by kernel_rfl
  t44 := Tryd.underlying112
  a44 := Tryd.isAgg112
  z44 := Tryd.sizeOf112
  v44 := Tryd.zeroValue112
  i44 := by kernel_rfl
  t47 := Tryd.underlying106
  a47 := Tryd.isAgg106
  z47 := Tryd.sizeOf106
  v47 := Tryd.zeroValue106
  i47 := by kernel_rfl
  t48 := Tryd.underlying122
  a48 := Tryd.isAgg122
  z48 := Tryd.sizeOf122
  v48 := Tryd.zeroValue122
  i48 := by kernel_rfl
  t50 := Tryd.underlying124
  a50 := Tryd.isAgg124
  z50 := Tryd.sizeOf124
  v50 := Tryd.zeroValue124
  i50 := by kernel_rfl
  t52 := Tryd.underlying101
  a52 := Tryd.isAgg101
  z52 := Tryd.sizeOf101
  v52 := Tryd.zeroValue101
  i52 := by kernel_rfl
  t55 := Tryd.underlying104
  a55 := Tryd.isAgg104
  z55 := Tryd.sizeOf104
  v55 := Tryd.zeroValue104
  i55 := by kernel_rfl
  t59 := Tryd.underlying116
  a59 := Tryd.isAgg116
  z59 := Tryd.sizeOf116
  v59 := Tryd.zeroValue116
  i59 := by kernel_rfl
  t60 := Tryd.underlying27
  a60 := Tryd.isAgg27
  z60 := Tryd.sizeOf27
  v60 := Tryd.zeroValue27
  i60 := by kernel_rfl
  t61 := Tryd.underlying117
  a61 := Tryd.isAgg117
  z61 := Tryd.sizeOf117
  t65 := Tryd.underlying132
  a65 := Tryd.isAgg132
  z65 := Tryd.sizeOf132
  v65 := Tryd.zeroValue132
  i65 := by kernel_rfl
  t66 := Tryd.underlying133
  a66 := Tryd.isAgg133
  z66 := Tryd.sizeOf133
  v66 := Tryd.zeroValue133
  i66 := by kernel_rfl
  t67 := Tryd.underlying89
  a67 := Tryd.isAgg89
  z67 := Tryd.sizeOf89
  v67 := Tryd.zeroValue89
  i67 := by kernel_rfl
  g0 := by kernel_rfl
  m0 := by kernel_rfl
  g1 := by kernel_rfl
  m1 := by kernel_rfl
  g2 := by kernel_rfl
  m2 := by kernel_rfl
  g3 := by kernel_rfl
  m3 := by kernel_rfl
  g4 := by kernel_rfl
  m4 := by kernel_rfl }
def Tryd.lays146_ren : Go.Shelf.Ren := ⟨fun | 146 => 37 | 221 => 60 | 268 => 70 | 138 => 71 | 143 => 72 | 195 => 86 | 197 => 87 | 218 => 88 | 219 => 89 | 260 => 100 | 217 => 101 | 225 => 102 | 224 => 103 | 267 => 104 | 266 => 107 | 314 => 108 | n => n, fun | 9 => 9 | 31 => 59 | 3 => 3 | 4 => 4 | 0 => 0 | 105 => 107 | 21 => 21 | 5 => 5 | 46 => 69 | 119 => 126 | 139 => 129 | 138 => 128 | 146 => 130 | 51 => 27 | n => n, fun | 1 => 3 | 3 => 4 | 4 => 5 | n => n⟩
theorem Tryd.lays146 : Go.Proofs.Lays.n146 Tryd.prog Tryd.lays146_ren := {
  mixed := by kernel_rfl
  f138 := Tryd.func71.trans (congrArg some (by kernel_rfl))
  f143 := Tryd.func72.trans (congrArg some (by kernel_rfl))
  f146 := Tryd.func37.trans (congrArg some (by kernel_rfl))
  f195 := Tryd.func86.trans (congrArg some (by kernel_rfl))
  f197 := Tryd.func87.trans (congrArg some (by kernel_rfl))
  f217 := Tryd.func101.trans (congrArg some (by kernel_rfl))
  f218 := Tryd.func88.trans (congrArg some (by kernel_rfl))
  f219 := Tryd.func89.trans (congrArg some (by kernel_rfl))
  f221 := Tryd.func60.trans (congrArg some (by kernel_rfl))
  f224 := Tryd.func103.trans (congrArg some (by kernel_rfl))
  f225 := Tryd.func102.trans (congrArg some (by kernel_rfl))
  f260 := Tryd.func100.trans (congrArg some (by kernel_rfl))
  f266 := Tryd.func107.trans (congrArg some (by kernel_rfl))
  f267 := Tryd.func104.trans (congrArg some (by kernel_rfl))
  f268 := Tryd.func70.trans (congrArg some (by kernel_rfl))
  f314 := Tryd.func108.trans (congrArg some (by kernel_rfl))
  t0 := Tryd.underlying0
  a0 := Tryd.isAgg0
  z0 := Tryd.sizeOf0
  v0 := Tryd.zeroValue0
  t3 := Tryd.underlying3
  a3 := Tryd.isAgg3
  z3 := Tryd.sizeOf3
  v3 := Tryd.zeroValue3
  t4 := Tryd.underlying4
  a4 := Tryd.isAgg4
  z4 := Tryd.sizeOf4
  v4 := Tryd.zeroValue4
  t5 := Tryd.underlying5
  a5 := Tryd.isAgg5
  z5 := Tryd.sizeOf5
  v5 := Tryd.zeroValue5
  t9 := Tryd.underlying9
  a9 := Tryd.isAgg9
  z9 := Tryd.sizeOf9
  v9 := Tryd.zeroValue9
  t21 := Tryd.underlying21
  a21 := Tryd.isAgg21
  z21 := Tryd.sizeOf21
  v21 := Tryd.zeroValue21
  t31 := Tryd.underlying59
  a31 := Tryd.isAgg59
  z31 := Tryd.sizeOf59
  v31 := Tryd.zeroValue59
  t46 := Tryd.underlying69
  a46 := Tryd.isAgg69
  z46 := Tryd.sizeOf69
  v46 := Tryd.zeroValue69
  t51 := Tryd.underlying27
  a51 := Tryd.isAgg27
  z51 := Tryd.sizeOf27
  v51 := Tryd.zeroValue27
  t105 := Tryd.underlying107
  a105 := Tryd.isAgg107
  z105 := Tryd.sizeOf107
  v105 := Tryd.zeroValue107
  t119 := Tryd.underlying126
  a119 := Tryd.isAgg126
  z119 := Tryd.sizeOf126
  t138 := Tryd.underlying128
  a138 := Tryd.isAgg128
  z138 := Tryd.sizeOf128
  v138 := Tryd.zeroValue128
  t139 := Tryd.underlying129
  a139 := Tryd.isAgg129
  z139 := Tryd.sizeOf129
  v139 := Tryd.zeroValue129
  t146 := Tryd.underlying130
  a146 := Tryd.isAgg130
  z146 := Tryd.sizeOf130
  v146 := Tryd.zeroValue130
  g1 := by kernel_rfl
  g3 := by kernel_rfl
  g4 := by kernel_rfl }
open Go.RowKit Go.Lib in
theorem Tryd.strings_Split (s sep : ByteArray) (m : Int) (w : World) (hs : s.size < 4294967281) (hm : w.cell? ⟨3, 0, none⟩ = some (.int .i64 m)) (h1 : 1 ≤ sep.size) :
    Calls Tryd.prog 37 #[.string s, .string sep] w fun e w' =>
      e = .returned (.slice (some ⟨w.heap.size, 0, none⟩) (Lib.countB s sep + 1) (Lib.countB s sep + 1)) ∧ w' = w.alloc (.cells ((Lib.splitB sep 0 (Lib.countB s sep) s).map Value.string).toArray 9) := Any.strings_Split Tryd.lays146 (by kernel_rfl) s sep m w hs hm h1
def Tryd.laysSlH8_f58_ren : Go.Shelf.Ren := ⟨fun | 8 => 58 | 6 => 69 | n => n, fun | 22 => 23 | 23 => 27 | 25 => 80 | 4 => 4 | 3 => 3 | 0 => 0 | n => n, fun | n => n⟩
theorem Tryd.laysSlH8_f58 : Go.Proofs.SlLaysH.n8 Tryd.prog Tryd.laysSlH8_f58_ren := {
  mixed := by kernel_rfl
  f6 := ⟨Tryd.f69.name, by decide, Tryd.func69.trans (congrArg some (by kernel_rfl))⟩
  f8 := ⟨Tryd.f58.name, by decide, Tryd.func58.trans (congrArg some (by kernel_rfl))⟩
  t0 := Tryd.underlying0
  a0 := Tryd.isAgg0
  z0 := Tryd.sizeOf0
  v0 := Tryd.zeroValue0
  t3 := Tryd.underlying3
  a3 := Tryd.isAgg3
  z3 := Tryd.sizeOf3
  v3 := Tryd.zeroValue3
  t4 := Tryd.underlying4
  a4 := Tryd.isAgg4
  z4 := Tryd.sizeOf4
  v4 := Tryd.zeroValue4
  t22 := Tryd.underlying23
  a22 := Tryd.isAgg23
  z22 := Tryd.sizeOf23
  v22 := Tryd.zeroValue23
  a23 := Tryd.isAgg27
  z23 := Tryd.sizeOf27
  t25 := Tryd.underlying80
  a25 := Tryd.isAgg80
  z25 := Tryd.sizeOf80
  v25 := Tryd.zeroValue80 }
open Go.RowKit Go.Lib in
theorem Tryd.slices_ContainsFunc {α : Type} [Inhabited α] (enc : α → Value) (p : α → Bool) (g : Nat) (lb : Array Value) (eg : ∀ args w, (callFunc g args).run Tryd.prog w = .ok (.enter g args) w) (b off n c : Nat) (zs : List α) (w : World) (hp : PredAt Tryd.prog g lb enc p w) (hz : n ≤ zs.length) (hbig : n ≤ 9223372036854775807) (hc : ∀ j, j < zs.length → w.cell? ⟨b, off + j, none⟩ = some (enc zs[j]!)) :
    Calls Tryd.prog 58 #[.slice (some ⟨b, off, none⟩) n c, .func (.func g) #[] lb] w fun e w' => e = .returned (.bool ((zs.take n).any p)) ∧ ∃ q, w' = w.drewN q := AnyE.slices_ContainsFunc Tryd.laysSlH8_f58 enc p g lb eg b off n c zs w hp hz hbig hc
open Go.RowKit Go.Lib in
theorem Tryd.slices_ContainsFunc_empty {α : Type} [Inhabited α] (a : Option Addr) (c : Nat) (fv : Value) (w : World) :
    Calls Tryd.prog 58 #[.slice a 0 c, fv] w fun e w' => e = .returned (.bool false) ∧ w' = w := AnyE.slices_ContainsFunc_empty Tryd.laysSlH8_f58 a c fv w
end Go.Proofs
end

section
/- The library's FormatUint at base 10, strings.Join and strings.Split, strconv.ParseUint at 32 bits, in the form of this place's contracts. After the shelf's worked proofs of FormatInt and AppendUint. -/
namespace Go.Proofs.YtjoncjnmhhimhaaDoor.Hand
set_option linter.unusedVariables false
set_option linter.unusedSimpArgs false
open Go.RowKit Go.Proofs.YtjoncjnmhhimhaaDoorW.PrintWords Go.Proofs.YtjoncjnmhhimhaaDoorW.PrintLast Go.Proofs.YtjoncjnmhhimhaaDoorW.PrintMore
open Go.Shelf Go.Sort Go.Lib

def decB (u : Nat) : ByteArray := ⟨(Lib.decDigits u).toArray⟩
def strconv_FormatUint.f (a0 a1 : Int) : Option ByteArray := if 0 ≤ a0 ∧ a0 < 18446744073709551616 ∧ a1 = 10 then some (decB a0.toNat) else none
def strings_Join.f (l0 : List ByteArray) (a1 : ByteArray) : Option ByteArray :=
  if l0.length ≤ 140737488355328 ∧ (Lib.join (l0.map (·.data.toList)) a1.data.toList).length ≤ 140737488355328 then some ⟨(Lib.join (l0.map (·.data.toList)) a1.data.toList).toArray⟩ else none

set_option maxHeartbeats 2000000 in
set_option maxRecDepth 100000 in
theorem fmtU (u : Nat) (hu64 : u < 18446744073709551616) (w : World) (HLd : LaidOk w) :
    Calls Tryd.prog 63 #[.int .u64 u, .int .i64 10] w fun e w' => e = .returned (.string (decB u)) ∧ Below w.heap.size w w' := by
  unfold decB
  by_cases hs : u < 100
  · have g1 : decide ((u : Int) < 100) = true := decide_eq_true (by omega)
    have g2 : decide (u < 100) = true := decide_eq_true hs
    go_enter Tryd.func63, Tryd.ntmps63
    go_wp2_with (go_at_call 79; refine (Tryd.internal_strconv_small u hs _).mono ?_; rintro e w' ⟨rfl, rfl⟩)
    go_ret
    exact ⟨rfl, Below.refl _ _⟩
  · have htab := HLd.pow
    have hu1 : 1 ≤ u := by omega
    have hnd20 : Lib.nDigits u ≤ 20 := by have := Lib.numDigits_eq u hu1 hu64; split at this <;> omega
    have hal : Tryd.prog.arrayLen 101 = 24 := by kernel_rfl
    have hsl : ∀ W, (Instr.sliceAt 101 (.pointer (some ⟨w.heap.size, 0, none⟩)) none (some (.int .i64 (Lib.nDigits u : Int))) none).run Tryd.prog W = .ok (.slice (some ⟨w.heap.size, 0, none⟩) (Lib.nDigits u) 24) W := fun W => by
      rw [run_sliceAt_array_h W 101 ⟨w.heap.size, 0, none⟩ (by kernel_rfl) .i64 (Lib.nDigits u : Int) (by omega) (by rw [hal]; omega)]
      rw [hal]
      rfl
    have hH0 := Lib.holds_zero0 w 101 (Lib.nDigits u) (by omega)
    have hfmt := Tryd.internal_strconv_formatBase10 w.heap.size 0 24 u (Array.replicate (Lib.nDigits u) 0) (w.alloc (.cells Lib.zeros24 101)) hH0 (by rw [Array.size_replicate]; exact Lib.lt_pow_nDigits u) hu64 (by rw [Array.size_replicate]; omega)
    rw [Array.size_replicate] at hfmt
    have HH0 := Lib.hid hH0
    have iu : (100 : Int) ≤ (u : Int) := by omega
    have g1 : decide ((u : Int) < 100) = false := decide_eq_false (by omega)
    have g2 : decide (u < 100) = false := decide_eq_false hs
    clear hH0 hal
    go_enter Tryd.func63, Tryd.ntmps63
    go_wp2_with (first
      | (go_at_call 80; refine (Tryd.internal_strconv_numDigits u hu1 hu64 _ (Lib.tabIs_alloc htab _)).mono ?_; rintro e w' ⟨rfl, rfl⟩))
    go_at_call 81
    refine hfmt.mono ?_
    rintro e w' ⟨rfl, k, v', dk, rfl, hF⟩
    have hcv : (convert 30 9 (.slice (some ⟨w.heap.size, 0, none⟩) (Lib.nDigits u) 24)).run Tryd.prog ((putRow (fun (b : UInt8) => Value.int .u8 (b.toNat : Int)) (w.alloc (.cells Lib.zeros24 101)) w.heap.size 0 dk).drewN k) = .ok (.string ⟨(Lib.decDigits u).toArray⟩) ((putRow (fun (b : UInt8) => Value.int .u8 (b.toNat : Int)) (w.alloc (.cells Lib.zeros24 101)) w.heap.size 0 dk).drewN k) := by
      have h := run_convert_bytes_back (P := Tryd.prog) ((putRow (fun (b : UInt8) => Value.int .u8 (b.toNat : Int)) (w.alloc (.cells Lib.zeros24 101)) w.heap.size 0 dk).drewN k) 30 9 5 ⟨w.heap.size, 0, none⟩ 24 (Lib.decDigits u) Tryd.underlying30 Tryd.underlying5 Tryd.underlying9 (fun j hj => by
        rw [Lib.row_is_numeral hF j hj, Lib.add_plain, World.cell?_drewN]
        exact cell?_putRow (fun (b : UInt8) => Value.int .u8 (b.toNat : Int)) _ w.heap.size 0 _ dk HH0.out (by rw [hF.size, Array.size_replicate]) j (by rw [hF.size]; rw [Lib.decDigits_length] at hj; exact hj))
      rw [Lib.decDigits_length] at h
      exact h
    go_wp2
    go_ret
    obtain ⟨os, eo⟩ := Lib.fin_at w (.cells Lib.zeros24 101) dk k 0
    refine ⟨rfl, ?_⟩
    rw [eo]
    exact Lib.below_grow _ w (Nat.le_refl _) k os

theorem strconv_FormatUint.calls (a0 a1 : Int) (r : ByteArray) (w : World) (HLd : LaidOk w) (h : strconv_FormatUint.f a0 a1 = some r) :
    Calls Tryd.prog 40 #[.int .u64 a0, .int .i64 a1] w fun e w' => e = .returned (.string r) ∧ Below w.heap.size w w' := by
  unfold strconv_FormatUint.f at h
  by_cases hc : 0 ≤ a0 ∧ a0 < 18446744073709551616 ∧ a1 = 10
  · rw [if_pos hc] at h
    obtain ⟨h0, h1, rfl⟩ := hc
    obtain rfl := Option.some.inj h
    clear h
    obtain ⟨u, rfl⟩ := Int.eq_ofNat_of_zero_le h0
    rw [Int.toNat_natCast]
    have hf := fmtU u (by omega)
    go_enter Tryd.func40, Tryd.ntmps40
    go_wp2_with (go_at_call 63; refine (hf _ HLd).mono ?_; rintro e w' ⟨rfl, hb⟩)
    go_ret
    exact ⟨rfl, hb⟩
  · rw [if_neg hc] at h
    cases h

theorem C_strs {w : World} {A : Option Addr} {l : List ByteArray} (h : Kd.C Kd.string w A l.length l) (h0 : 0 < l.length) :
    ∃ b off, A = some ⟨b, off, none⟩ ∧ l.length ≤ 9223372036854775807 ∧ ∀ j x, l[j]? = some x → w.cell? ⟨b, off + j, none⟩ = some (.string x) := by
  obtain ⟨_, h2, h3⟩ := Kd.reads_of_C (d := ByteArray.empty) h
  obtain ⟨ad, e, hc⟩ := h3 h0
  subst e
  obtain ⟨b, off, spot⟩ := ad
  have hspot : spot = none := by simpa [Addr.add] using World.cell?_spot (hc 0 h0)
  subst hspot
  refine ⟨b, off, rfl, h2, fun j x hx => ?_⟩
  have hj := (List.getElem?_eq_some_iff.1 hx).1
  have := hc j hj
  rw [add_plain'] at this
  rw [this]
  simp [List.getD, hx]

theorem strings_Join.calls (A0 : Option Addr) (c0 : Nat) (l0 : List ByteArray) (a1 : ByteArray) (r : ByteArray) (w : World) (hr0 : Kd.C Kd.string w A0 l0.length l0) (hc0 : l0.length ≤ c0) (h : strings_Join.f l0 a1 = some r) :
    Calls Tryd.prog 41 #[.slice A0 l0.length c0, .string a1] w fun e w' => e = .returned (.string r) ∧ Below w.heap.size w w' := by
  unfold strings_Join.f at h
  by_cases hc : l0.length ≤ 140737488355328 ∧ (Lib.join (l0.map (·.data.toList)) a1.data.toList).length ≤ 140737488355328
  · rw [if_pos hc] at h
    obtain rfl := Option.some.inj h
    by_cases h0 : l0.length = 0
    · have : l0 = [] := List.eq_nil_of_length_eq_zero h0
      subst this
      exact (Tryd.strings_Join_none A0 c0 a1 w).mono fun e w' ⟨he, hw⟩ => ⟨he, by subst hw; exact Below.refl _ _⟩
    · obtain ⟨b, off, rfl, h2, hcc⟩ := C_strs hr0 (by omega)
      exact Tryd.strings_Join b off c0 l0 a1 w hcc (World.block_lt_of_cell? w ⟨b, off + 0, none⟩ (hcc 0 l0[0] (by simp))) hc.1 hc0 hc.2
  · rw [if_neg hc] at h
    cases h

/-- An error value: none, or some value of some type. -/
def ErrIs : Option Int → Value → Prop
  | none, ev => ev = .nilIface
  | some _, ev => ∃ tp p, ev = .iface tp p
def strconv_ParseUint.f (a0 : ByteArray) (a1 a2 : Int) : Option (Int × Option Int) :=
  if a0.size ≤ 281474976710656 ∧ a1 = 10 ∧ a2 = 32 then
    match Lib.parseUintB 32 a0.data.toList with
    | .ok u => some ((u : Int), none)
    | .range => some (4294967295, some 1)
    | _ => some (0, some 0)
  else none
theorem strconv_ParseUint.calls (a0 : ByteArray) (a1 a2 : Int) (r1 : Int) (r2 : Option Int) (w : World) (HLd : LaidOk w) (h : strconv_ParseUint.f a0 a1 a2 = some (r1, r2)) :
    Calls Tryd.prog 38 #[.string a0, .int .i64 a1, .int .i64 a2] w fun e w' => ∃ ev, e = .returned (.tuple #[.int .u64 r1, ev]) ∧ ErrIs r2 ev ∧ Below w.heap.size w w' := by
  unfold strconv_ParseUint.f at h
  by_cases hc : a0.size ≤ 281474976710656 ∧ a1 = 10 ∧ a2 = 32
  · rw [if_pos hc] at h
    obtain ⟨hs, rfl, rfl⟩ := hc
    rcases hp : Lib.parseUintB 32 a0.data.toList with u | _ | _
    · rw [hp] at h
      simp only [Option.some.injEq, Prod.mk.injEq] at h
      obtain ⟨rfl, rfl⟩ := h
      refine (Any.strconv_ParseUint_10_at32_ok Tryd.laysPu14 a0 (by omega) u hp w).mono ?_
      rintro e w' ⟨rfl, hw⟩
      refine ⟨_, rfl, rfl, ?_⟩
      rcases hw with rfl | rfl
      · exact Below.refl _ _
      · exact Lib.bytesWorld_below _ _ _
    · rw [hp] at h
      simp only [Option.some.injEq, Prod.mk.injEq] at h
      obtain ⟨rfl, rfl⟩ := h
      obtain ⟨tp, p, hv⟩ := HLd.syn
      refine (Any.strconv_ParseUint_10_at32_syntax_var Tryd.laysPu14 a0 hs hp tp p w hv).mono ?_
      rintro e w' ⟨N, rfl, _, _, hb⟩
      exact ⟨_, rfl, ⟨_, _, rfl⟩, hb⟩
    · rw [hp] at h
      simp only [Option.some.injEq, Prod.mk.injEq] at h
      obtain ⟨rfl, rfl⟩ := h
      obtain ⟨tp, p, hv⟩ := HLd.rng
      refine (Any.strconv_ParseUint_10_at32_range_var Tryd.laysPu14 a0 hs hp tp p w hv).mono ?_
      rintro e w' ⟨N, rfl, _, _, hb⟩
      exact ⟨_, rfl, ⟨_, _, rfl⟩, hb⟩
  · rw [if_neg hc] at h
    cases h

/-- What Split leaves is a row of the call's own. -/
def strings_Split.f (a0 a1 : ByteArray) : Option (List ByteArray) := if a0.size < 4294967281 ∧ 1 ≤ a1.size then some (Lib.splitB a1 0 (Lib.countB a0 a1) a0) else none
theorem strings_Split.calls (a0 a1 : ByteArray) (r : List ByteArray) (w : World) (HLd : LaidOk w) (h : strings_Split.f a0 a1 = some r) :
    Calls Tryd.prog 37 #[.string a0, .string a1] w fun e w' => ∃ v0_ : Value, e = .returned v0_ ∧ Kd.R Kd.string 9 w' w.heap.size (fun _ => True) v0_ r ∧ Below w.heap.size w w' := by
  unfold strings_Split.f at h
  by_cases hc : a0.size < 4294967281 ∧ 1 ≤ a1.size
  · rw [if_pos hc] at h
    obtain rfl := Option.some.inj h
    obtain ⟨m, hm⟩ := HLd.max
    refine (Tryd.strings_Split a0 a1 m w hc.1 hm hc.2).mono ?_
    rintro e w' ⟨rfl, rfl⟩
    refine ⟨_, rfl, ?_, below_alloc (Below.refl _ _) _⟩
    have hlen := Lib.splitB_all a1 hc.2 0 _ a0 rfl
    have hle := Lib.countB_le a1 hc.2 a0.size a0 (Nat.le_refl _)
    rw [← hlen]
    exact Kd.R_of_own (enc := Value.string) (h1 := fun _ => rfl) (own_lit_of (enc := Value.string) w w.heap.size 9 (Lib.splitB a1 0 (Lib.countB a0 a1) a0) (Nat.le_refl _) (by omega)) (fun _ _ => trivial)
  · rw [if_neg hc] at h
    cases h

end Go.Proofs.YtjoncjnmhhimhaaDoor.Hand
end

section
/- The walk of oid.Valid: what the program's test on a list comes to. -/
namespace Go.Proofs.YtjoncjnmhhimhaaDoor.Hand
set_option linter.unusedVariables false
set_option linter.unusedSimpArgs false
open Go.RowKit Go.Proofs.YtjoncjnmhhimhaaDoorW.PrintWords Go.Proofs.YtjoncjnmhhimhaaDoorW.PrintLast Go.Proofs.YtjoncjnmhhimhaaDoorW.PrintMore
open Go.Proofs.YtjoncjnmhhimhaaDoor.Oid Go.Shelf

/-- The test on a number, a function value. -/
theorem valid1 (w : World) : PredAt Tryd.prog 59 #[] (Value.int .u32) (fun n => decide (4294967216 ≤ n)) w := fun W n _ => by
  unfold FnGives
  go_enter Tryd.func59, Tryd.ntmps59
  go_wp2
  go_ret
  exact ⟨rfl, 0, rfl⟩

theorem contains_any (A0 : Option Addr) (c0 : Nat) (l0 : List Int) (w : World) (hr0 : Kd.C (Kd.int .u32) w A0 l0.length l0) :
    Calls Tryd.prog 58 #[.slice A0 l0.length c0, .func (.func 59) #[] #[]] w fun e w' => e = .returned (.bool (l0.any fun n => decide (4294967216 ≤ n))) ∧ Drawn0 w w' := by
  by_cases h0 : l0.length = 0
  · have : l0 = [] := List.eq_nil_of_length_eq_zero h0
    subst this
    exact (Tryd.slices_ContainsFunc_empty (α := Int) A0 c0 _ w).mono fun e w' ⟨he, hw⟩ => ⟨he, by subst hw; exact Drawn0.refl _⟩
  · obtain ⟨b, off, rfl, h2, hc⟩ := C_ints hr0 (by omega)
    refine (Tryd.slices_ContainsFunc (Value.int .u32) (fun n => decide (4294967216 ≤ n)) 59 #[] (enters_of Tryd.func59 (by kernel_rfl) rfl) b off l0.length c0 l0 w (valid1 w) (Nat.le_refl _) h2 hc).mono fun e w' ⟨he, q, hw⟩ => ⟨?_, ?_⟩
    · rw [he, List.take_length]
    · subst hw
      exact (Drawn0.refl w).step q

theorem valid_no {l : List Int} (h : l.length < 2 ∨ 20 < l.length ∨ 2 < l.getD 0 0 ∨ (l.getD 0 0 < 2 ∧ 40 ≤ l.getD 1 0)) : validB l = false := by
  unfold validB
  simp only [Bool.and_eq_false_iff, Bool.or_eq_false_iff, decide_eq_false_iff_not]
  omega
theorem valid_yes {l : List Int} (h1 : 2 ≤ l.length) (h2 : l.length ≤ 20) (h3 : l.getD 0 0 ≤ 2) (h4 : 2 ≤ l.getD 0 0 ∨ l.getD 1 0 < 40) : validB l = !(l.any fun n => decide (4294967216 ≤ n)) := by
  unfold validB
  rw [decide_eq_true h1, decide_eq_true h2, decide_eq_true h3]
  have : (decide (2 ≤ l.getD 0 0) || decide (l.getD 1 0 < 40)) = true := by simpa using h4
  rw [this, List.not_any_eq_all_not]
  simp only [Bool.true_and]
  congr 1
  funext n
  by_cases hn : n < 4294967216
  · rw [decide_eq_true hn, decide_eq_false (by omega)]; rfl
  · rw [decide_eq_false hn, decide_eq_true (by omega)]; rfl

set_option maxHeartbeats 2000000 in
theorem oid_Valid.calls (A0 : Option Addr) (c0 : Nat) (l0 : List Int) (r : Bool) (w : World) (hr0 : Kd.C (Kd.int .u32) w A0 l0.length l0) (hc0 : l0.length ≤ c0) (h : oid_Valid.f l0 = some r) :
    Calls Tryd.prog 36 #[.slice A0 l0.length c0] w fun e w' => e = .returned (.bool r) ∧ Drawn0 w w' := by
  obtain rfl := Option.some.inj h
  clear h
  by_cases h1 : l0.length < 2
  · rw [valid_no (.inl h1)]
    have g1 : decide ((l0.length : Int) < 2) = true := decide_eq_true (by omega)
    have g2 : decide (l0.length < 2) = true := decide_eq_true h1
    clear h1 hr0
    go_enter Tryd.func36, Tryd.ntmps36
    go_wp2
    go_ret
    exact ⟨rfl, Drawn0.refl _⟩
  · have g1 : decide ((l0.length : Int) < 2) = false := decide_eq_false (by omega)
    have g2 : decide (l0.length < 2) = false := decide_eq_false h1
    by_cases h2 : 20 < l0.length
    · rw [valid_no (.inr (.inl h2))]
      have g3 : decide (20 < (l0.length : Int)) = true := decide_eq_true (by omega)
      have g4 : decide (20 < l0.length) = true := decide_eq_true h2
      clear h1 h2 hr0
      go_enter Tryd.func36, Tryd.ntmps36
      go_wp2
      go_ret
      exact ⟨rfl, Drawn0.refl _⟩
    · have g3 : decide (20 < (l0.length : Int)) = false := decide_eq_false (by omega)
      have g4 : decide (20 < l0.length) = false := decide_eq_false h2
      obtain ⟨b, off, rfl, hl, hc⟩ := C_intsD hr0 (by omega)
      have x0 : w.cell? ⟨b, off, none⟩ = some (.int .u32 (l0.getD 0 0)) := hc 0 (by omega)
      have x1 : w.cell? ⟨b, off + 1, none⟩ = some (.int .u32 (l0.getD 1 0)) := hc 1 (by omega)
      have q0 : (0 < l0.length) = True := eq_true (by omega)
      have q1 : (1 < l0.length) = True := eq_true (by omega)
      have q0' : (0 < (l0.length : Int)) = True := eq_true (by omega)
      have q1' : (1 < (l0.length : Int)) = True := eq_true (by omega)
      have Y := Lib.hid (@valid_yes l0)
      have Z := Lib.hid (@valid_no l0)
      have H1 := Lib.hid h1
      have H2 := Lib.hid h2
      have HR := Lib.hid hr0
      clear hc h1 h2 hr0
      generalize l0.getD 0 0 = a at *
      generalize l0.getD 1 0 = b1 at *
      by_cases h3 : 2 < a
      · rw [Z.out (.inr (.inr (.inl h3)))]
        have g5 : decide (2 < a) = true := decide_eq_true h3
        clear h3
        go_enter Tryd.func36, Tryd.ntmps36
        go_wp2
        go_ret
        exact ⟨rfl, Drawn0.refl _⟩
      · have g5 : decide (2 < a) = false := decide_eq_false h3
        by_cases h4 : a < 2
        · have g6 : decide (a < 2) = true := decide_eq_true h4
          by_cases h5 : 40 ≤ b1
          · rw [Z.out (.inr (.inr (.inr ⟨h4, h5⟩)))]
            have g7 : decide (40 ≤ b1) = true := decide_eq_true h5
            clear h3 h4 h5
            go_enter Tryd.func36, Tryd.ntmps36
            go_wp2
            go_ret
            exact ⟨rfl, Drawn0.refl _⟩
          · rw [Y.out (by have := H1.out; omega) (by have := H2.out; omega) (by omega) (.inr (by omega))]
            have g7 : decide (40 ≤ b1) = false := decide_eq_false h5
            clear h3 h4 h5
            go_enter Tryd.func36, Tryd.ntmps36
            go_wp2_with (go_at_call 58; refine (contains_any _ c0 l0 _ HR.out).mono ?_; rintro e w' ⟨rfl, ⟨nd, rfl⟩⟩)
            go_ret
            exact ⟨rfl, (Drawn0.refl w).step nd⟩
        · rw [Y.out (by have := H1.out; omega) (by have := H2.out; omega) (by omega) (.inl (by omega))]
          have g6 : decide (a < 2) = false := decide_eq_false h4
          clear h3 h4
          go_enter Tryd.func36, Tryd.ntmps36
          go_wp2_with (go_at_call 58; refine (contains_any _ c0 l0 _ HR.out).mono ?_; rintro e w' ⟨rfl, ⟨nd, rfl⟩⟩)
          go_ret
          exact ⟨rfl, (Drawn0.refl w).step nd⟩

end Go.Proofs.YtjoncjnmhhimhaaDoor.Hand
end

section
-- Written by the kit's print.py, driven by this place's wip/tools/myprint.py. Not trusted: Lean checks it.
namespace Go.Proofs.YtjoncjnmhhimhaaDoor.PText
open Go.RowKit Go.Proofs.YtjoncjnmhhimhaaDoor.Hand Go.Proofs.YtjoncjnmhhimhaaDoorW.PrintWords Go.Proofs.YtjoncjnmhhimhaaDoorW.PrintLast Go.Proofs.YtjoncjnmhhimhaaDoorW.PrintMore
attribute [local go_sem] max2_int min2_int max_two min_two max_three min_three max_four min_four   -- for this text's walks alone
set_option linter.unusedVariables false
set_option linter.unusedSimpArgs false



def errW : Option Int → Value
  | none => .nilIface
  | some c => .iface 0 (.int .i64 c)
theorem errW_none : errW none = .nilIface := rfl
theorem errW_some (c : Int) : errW (some c) = .iface 0 (.int .i64 c) := rfl

theorem info9 : (Tryd.prog.info? 9).map (fun i => (i.zero, i.size, i.bytes)) = some (some (.string ⟨#[]⟩), 1, 16) := by kernel_rfl
-- the values' own types
def rd_L1 (xs : List (List Int)) (i : Int) : (List Int) := xs.getD i.toNat ([] : List Int)
theorem at_L1 {w : World} {A : Option Addr} {n : Nat} {xs : List (List Int)} (h : Kd.C (Kd.slice 27 (Kd.int .u32)) w A n xs) (i : Int) (h0 : 0 ≤ i) (h1 : i < n) : ∃ ad A0 c0, A = some ad ∧ w.cell? (ad.add i.toNat) = some (.slice A0 (rd_L1 xs i).length c0) ∧ (rd_L1 xs i).length ≤ c0 ∧ (Kd.int .u32).C w A0 (rd_L1 xs i).length (rd_L1 xs i) := by
  obtain ⟨ad, c, e, _, hK, hc0⟩ := Kd.C_get h ([] : List Int) i h0 h1
  have hc : ∀ j u, c[j]? = some u → w.cell? (ad.add (i.toNat * 1 + j)) = some u := hc0
  obtain ⟨A0, c0, rfl, l0, g0⟩ := hK
  exact ⟨ad, A0, c0, e, by have hq := hc 0 _ rfl; rwa [Nat.mul_one, Nat.add_zero] at hq, l0, g0⟩

def rd_L6 (xs : List (List ByteArray)) (i : Int) : (List ByteArray) := xs.getD i.toNat ([] : List ByteArray)
theorem at_L6 {w : World} {A : Option Addr} {n : Nat} {xs : List (List ByteArray)} (h : Kd.C (Kd.slice 9 Kd.string) w A n xs) (i : Int) (h0 : 0 ≤ i) (h1 : i < n) : ∃ ad A0 c0, A = some ad ∧ w.cell? (ad.add i.toNat) = some (.slice A0 (rd_L6 xs i).length c0) ∧ (rd_L6 xs i).length ≤ c0 ∧ Kd.string.C w A0 (rd_L6 xs i).length (rd_L6 xs i) := by
  obtain ⟨ad, c, e, _, hK, hc0⟩ := Kd.C_get h ([] : List ByteArray) i h0 h1
  have hc : ∀ j u, c[j]? = some u → w.cell? (ad.add (i.toNat * 1 + j)) = some u := hc0
  obtain ⟨A0, c0, rfl, l0, g0⟩ := hK
  exact ⟨ad, A0, c0, e, by have hq := hc 0 _ rfl; rwa [Nat.mul_one, Nat.add_zero] at hq, l0, g0⟩

end Go.Proofs.YtjoncjnmhhimhaaDoor.PText
namespace Go.Proofs.YtjoncjnmhhimhaaDoor.PText
open Go.RowKit Go.Proofs.YtjoncjnmhhimhaaDoor.Hand Go.Proofs.YtjoncjnmhhimhaaDoorW.PrintWords Go.Proofs.YtjoncjnmhhimhaaDoorW.PrintLast Go.Proofs.YtjoncjnmhhimhaaDoorW.PrintMore
attribute [local go_sem] max2_int min2_int max_two min_two max_three min_three max_four min_four   -- for this text's walks alone
set_option linter.unusedVariables false
set_option linter.unusedSimpArgs false

-- BY CONTRACT: function 36 (oid_Valid)

-- BY CONTRACT: function 40 (strconv_FormatUint)

-- BY CONTRACT: function 41 (strings_Join)

/-! ### oid_Text: function 16 -/
def oid_Text.l0 : Nat → List ByteArray → List Int → Int → Int → Option (ByteArray)
  | 0, _, _, _, _ => none
  | k + 1, x3, x9, x10, x11 => if x11 < x10 then (if 0 ≤ x11 then (if x11 < (x9.length : Int) then ((strconv_FormatUint.f (IntKind.u64.wrap (rd x9 x11)) 10).bind fun t103 => (if x3.length < 8796093022208 then (oid_Text.l0 k (x3 ++ [t103]) x9 x10 (wrap64 (x11 + 1))) else (none))) else (none)) else (none)) else ((strings_Join.f x3 (⟨#[46]⟩ : ByteArray)).bind fun t107 => (some t107))
def oid_Text.f (k : Nat) (l0 : List Int) : Option (ByteArray) := (oid_Valid.f l0).bind fun t101 => (if t101 = true then (oid_Text.l0 k ([] : List ByteArray) l0 (l0.length : Int) 0) else (some (⟨#[]⟩ : ByteArray)))
theorem oid_Text.mono_l : ∀ k, (∀ y0 y1 y2 y3, LeO (oid_Text.l0 k y0 y1 y2 y3) (oid_Text.l0 (k + 1) y0 y1 y2 y3))
  | 0 => fun _ _ _ _ r h => by simp [oid_Text.l0] at h
  | k + 1 => by
    have ih0 := oid_Text.mono_l k
    · intro y0 y1 y2 y3
      unfold oid_Text.l0
      repeat' first
      | (with_reducible exact ih0 _ _ _ _)
      | (with_reducible exact LeO.refl _)
      | (with_reducible exact LeO.none _)
      | (with_reducible refine LeO.ite ?_ ?_)
      | (with_reducible refine LeO.bind ?_ (fun _ => ?_))
      | exact ih0 _ _ _ _
      | exact LeO.none _
      | refine LeO.ite ?_ ?_
      | refine LeO.bind ?_ (fun _ => ?_)
theorem oid_Text.mono : ∀ a0 k, LeO (oid_Text.f k a0) (oid_Text.f (k + 1) a0) := by
  intro a0 k
  have ih0 := oid_Text.mono_l k
  unfold oid_Text.f
  repeat' first
      | (with_reducible exact ih0 _ _ _ _)
      | (with_reducible exact LeO.refl _)
      | (with_reducible exact LeO.none _)
      | (with_reducible refine LeO.ite ?_ ?_)
      | (with_reducible refine LeO.bind ?_ (fun _ => ?_))
      | exact ih0 _ _ _ _
      | exact LeO.none _
      | refine LeO.ite ?_ ?_
      | refine LeO.bind ?_ (fun _ => ?_)
set_option maxHeartbeats 8000000 in
set_option maxRecDepth 100000 in
theorem oid_Text.calls (k : Nat) (A0 : Option Addr) (c0 : Nat) (l0 : List Int) (r : ByteArray) (w : World) (HLd : LaidOk w) (hr0 : Kd.C (Kd.int .u32) w A0 l0.length l0) (hc0 : l0.length ≤ c0) (h : oid_Text.f k l0 = some r) :
    Calls Tryd.prog 16 #[.slice A0 l0.length c0] w fun e w' => e = .returned (.string r) ∧ Below w.heap.size w w' := by
  have HR0 := Aside0.mk hr0
  have HC0 := Aside0.mk hc0
  clear hr0 hc0
  have HB := Aside0.mk (Below.refl w.heap.size w)
  have H : ((oid_Valid.f l0).bind fun t101 => (if t101 = true then (oid_Text.l0 k ([] : List ByteArray) l0 (l0.length : Int) 0) else (some (⟨#[]⟩ : ByteArray)))) = some r := h
  clear h
  replace H := Option.bind_eq_some_iff.mp H
  obtain ⟨t101, A20, H⟩ := H
  replace H : (if t101 = true then (oid_Text.l0 k ([] : List ByteArray) l0 (l0.length : Int) 0) else (some (⟨#[]⟩ : ByteArray))) = some r := H
  have A2 := Aside0.mk A20
  clear A20
  by_cases c3 : t101 = true
  · subst c3
    have H1 : (oid_Text.l0 k ([] : List ByteArray) l0 (l0.length : Int) 0) = some r := by rw [if_pos rfl] at H; exact H
    clear H
    have H := H1
    clear H1
    have H' := Aside0.mk H
    clear H
    go_enter Tryd.func16, Tryd.ntmps16
    go_wp2_with (first | ((with_reducible refine gate_callee (f := 36) rfl ?_); refine goesL_ (some 7) rfl rfl Tryd.func36 (by kernel_rfl) rfl #[.slice A0 l0.length c0] rfl (by (try simp only [List.map_toArray, List.map_cons, List.map_nil]); first | done | rfl | (simp only [List.length_drop, List.length_take]; rfl)) ?_; (with_reducible refine (oid_Valid.calls _ _ l0 true _ ?side1 ?side2 A2.out).mono ?_); (case side1 => repeat (first | exact HR0.out | (with_reducible refine Kd.C_alloc ?_ _) | (with_reducible refine Kd.C_drewN ?_ _) | (with_reducible refine Kd.C_drew ?_))); (case side2 => exact HC0.out); rintro e w' ⟨rfl, ⟨nd, rfl⟩⟩; refine ⟨_, rfl, ?_⟩))
    go_loopg [3, 11] k (fun kq v3 v11 w' => ∃ (x3_1 : List ByteArray) (x11_1 : Int), v11 = .int .i64 x11_1 ∧ Aside0 (oid_Text.l0 kq x3_1 l0 (l0.length : Int) x11_1 = some r) ∧ Aside0 (kq ≤ k) ∧ Aside0 (Kd.R Kd.string 9 w' w.heap.size (fun _ => True) v3 x3_1) ∧ Aside0 (Below w.heap.size w w'))
    case atStart => exact ⟨(([] : List ByteArray)), (0), (by first | rfl | (simp; done) | (simp [*]; done)), H', ⟨Nat.le_refl _⟩, ⟨by first | exact Kd.R_nil _ _ _ _ _ | exact Kd.N_nil _ _ _ _ _ | exact Kd.V_nil _ _ _ _ _ | exact Kd.Q_nil _ _ _ _ _ | exact Kd.S_nil _ _ _ _ _⟩, ⟨by repeat (first | (with_reducible first | exact HB.out | apply below_alloc | apply pw_below_drewN | apply below_drew1) | exact HB.out)⟩⟩
    case round =>
      clear H'
      try clear c1
      try clear p2
      try clear c3
      obtain ⟨x3_1, x11_1, rfl, HA, HK1, HO_3, HB⟩ := hrel
      cases gk with
      | zero => exact absurd HA.out (by simp [oid_Text.l0])
      | succ k1 =>
        have H := HA.out
        clear HA
        simp only [oid_Text.l0] at H
        by_cases c4 : x11_1 < (l0.length : Int)
        · rw [if_pos c4] at H
          have c4b0 : decide (x11_1 < (l0.length : Int)) = true := decide_eq_true c4
          clear c4
          by_cases c5 : 0 ≤ x11_1
          · rw [if_pos c5] at H
            have c5b0 : decide (0 ≤ x11_1) = true := decide_eq_true c5
            clear c5
            by_cases c6 : x11_1 < (l0.length : Int)
            · rw [if_pos c6] at H
              have c6b0 : decide (x11_1 < (l0.length : Int)) = true := decide_eq_true c6
              clear c6
              replace H := Option.bind_eq_some_iff.mp H
              obtain ⟨t103, A70, H⟩ := H
              replace H : (if x3_1.length < 8796093022208 then (oid_Text.l0 k1 (x3_1 ++ [t103]) l0 (l0.length : Int) (wrap64 (x11_1 + 1))) else (none)) = some r := H
              have A7 := Aside0.mk A70
              clear A70
              by_cases c8 : x3_1.length < 8796093022208
              · rw [if_pos c8] at H
                have LMc8 := Aside0.mk c8
                clear c8
                obtain ⟨y104, hy104⟩ : ∃ y_ : List ByteArray, y_ = (x3_1 ++ [t103]) := ⟨_, rfl⟩
                replace H : (oid_Text.l0 k1 y104 l0 (l0.length : Int) (wrap64 (x11_1 + 1))) = some r := by first | (rw [hy104]; with_reducible exact H) | (have H2_ := (Option.bind_some _ _).symm.trans H; rw [hy104]; with_reducible exact H2_) | (have H2_ := (Option.bind_some _ _).symm.trans H; with_reducible exact H2_) | with_reducible exact H | (rw [hy104]; exact H) | exact H
                have Ny104 := Aside0.mk hy104
                clear hy104
                have H' := Aside0.mk H
                clear H
                have p102 : 0 ≤ (x11_1 : Int) := of_decide_eq_true (by first | (with_reducible assumption) | assumption)
                have q102 : x11_1 < (l0.length : Int) := of_decide_eq_true (by first | (with_reducible assumption) | assumption)
                obtain ⟨ad102, e102, hx102_0⟩ := Kd.at_int HR0.out x11_1 p102 q102
                cases e102
                replace hx102_0 := (HB.out.cell (World.block_lt_of_cell? w _ hx102_0)).trans hx102_0
                replace p102 := eq_true p102
                replace q102 := eq_true q102
                go_wp2_with (first | ((with_reducible refine gate_callee (f := 40) rfl ?_); refine goesL_ (some 18) rfl rfl Tryd.func40 (by kernel_rfl) rfl #[.int .u64 (IntKind.u64.wrap (rd l0 x11_1)), .int .i64 10] rfl (by (try simp only [List.map_toArray, List.map_cons, List.map_nil]); first | done | rfl | (simp only [List.length_drop, List.length_take]; rfl)) ?_; (with_reducible refine (strconv_FormatUint.calls (IntKind.u64.wrap (rd l0 x11_1)) 10 t103 _ ?side1 A7.out).mono ?_); (case side1 => first | exact HLd | (exact LaidOk.below HLd (by repeat (first | (with_reducible first | exact HB.out | apply below_alloc | apply pw_below_drewN | apply below_drew1) | exact HB.out))) | (repeat (first | exact HLd | apply LaidOk.drewN | apply LaidOk.drew | apply LaidOk.alloc))); rintro e w9 ⟨rfl, hb⟩; refine ⟨_, rfl, ?_⟩; have n0_ := Aside0.mk (Kd.R_below (by (with_reducible repeat (first | apply Kd.R_alloc | apply Kd.R_drewN | apply Kd.R_drew)); exact HO_3.out) hb); have n1_ := Aside0.mk (below_step (by repeat (first | (with_reducible first | exact HB.out | apply below_alloc | apply pw_below_drewN | apply below_drew1) | exact HB.out)) hb); clear HO_3; clear HB; have HO_3 := n0_; have HB := n1_; clear n0_ n1_; (try clear hb); (try clear hb2); (try clear hk); (try clear hi)) | ((with_reducible refine gate_builtin (b := .append) (xs := #[.tmp 15, .tmp 19]) rfl ?_); at_builtin; refine Kd.R_append Kd.string (w0 := w) w.heap.size rfl (.tmp 15) (.tmp 19) 59 9 (.string ⟨#[]⟩) 16 rfl Tryd.underlying59 info9 rfl (by decide) (by omega) u3 x3_1 t103 [.string t103] (fun _ => True) (fun _ => False) rfl rfl ?aP (fun _ hk => hk.elim) ?aF ?aO ?aB ?aS ?aL ?_; (case aP => exact rfl); (case aB => exact (by repeat (first | (with_reducible first | exact HB.out | apply below_alloc | apply pw_below_drewN | apply below_drew1) | exact HB.out))); (case aF => exact (fun _ _ => trivial)); (case aO => exact (by (with_reducible repeat (first | apply Kd.R_alloc | apply Kd.R_drewN | apply Kd.R_drew)); exact HO_3.out)); (case aS => exact (below_size (by repeat (first | (with_reducible first | exact HB.out | apply below_alloc | apply pw_below_drewN | apply below_drew1) | exact HB.out)))); (case aL => have := LMc8.out; omega); intro v105 w10 ho hb hg hat; rw [← Ny104.out] at ho; have n0_ := Aside0.mk (hb); have n1_ := Aside0.mk (ho); clear HB; clear HO_3; have HB := n0_; have HO106 := n1_; clear n0_ n1_; clear ho hb hg hat))
                go_roundg k1
                case measure => have := HK1.out; omega
                case rel => exact ⟨(y104), (wrap64 (x11_1 + 1)), (by first | rfl | (simp; done) | (simp [*]; done)), H', ⟨by have := HK1.out; omega⟩, ⟨by (with_reducible repeat (first | apply Kd.R_alloc | apply Kd.R_drewN | apply Kd.R_drew)); exact HO106.out⟩, ⟨by repeat (first | (with_reducible first | exact HB.out | apply below_alloc | apply pw_below_drewN | apply below_drew1) | exact HB.out)⟩⟩
              · rw [if_neg c8] at H
                exact absurd H (by simp)
            · rw [if_neg c6] at H
              exact absurd H (by simp)
          · rw [if_neg c5] at H
            exact absurd H (by simp)
        · rw [if_neg c4] at H
          have c4b0 : decide (x11_1 < (l0.length : Int)) = false := decide_eq_false c4
          clear c4
          replace H := Option.bind_eq_some_iff.mp H
          obtain ⟨t107, A110, H⟩ := H
          replace H : (some t107) = some r := H
          have A11 := Aside0.mk A110
          clear A110
          obtain rfl := Option.some.inj H
          obtain ⟨Ao12, co12, eo12⟩ := Kd.R_slice HO_3.out
          subst eo12
          go_wp2_with (first | ((with_reducible refine gate_callee (f := 41) rfl ?_); refine goesL_ (some 23) rfl rfl Tryd.func41 (by kernel_rfl) rfl #[.slice Ao12 x3_1.length co12, .string (⟨#[46]⟩ : ByteArray)] rfl (by (try simp only [List.map_toArray, List.map_cons, List.map_nil]); first | done | rfl | (simp only [List.length_drop, List.length_take]; rfl)) ?_; (with_reducible refine (strings_Join.calls _ _ x3_1 (⟨#[46]⟩ : ByteArray) t107 _ ?side1 ?side2 A11.out).mono ?_); (case side1 => repeat (first | exact (Kd.R_reads' HO_3.out).2.2 | (with_reducible refine Kd.C_alloc ?_ _) | (with_reducible refine Kd.C_drewN ?_ _) | (with_reducible refine Kd.C_drew ?_))); (case side2 => exact (Kd.R_reads' HO_3.out).2.1); rintro e w13 ⟨rfl, hb⟩; refine ⟨_, rfl, ?_⟩; have n0_ := Aside0.mk (Kd.R_below (by (with_reducible repeat (first | apply Kd.R_alloc | apply Kd.R_drewN | apply Kd.R_drew)); exact HO_3.out) hb); have n1_ := Aside0.mk (below_step (by repeat (first | (with_reducible first | exact HB.out | apply below_alloc | apply pw_below_drewN | apply below_drew1) | exact HB.out)) hb); clear HO_3; clear HB; have HO_3 := n0_; have HB := n1_; clear n0_ n1_; (try clear hb); (try clear hb2); (try clear hk); (try clear hi)))
          go_ret
          exact ⟨by first | rfl | (simp [errW_none, errW_some] <;> rfl) | (simp [*, errW_none, errW_some] <;> rfl), by repeat (first | (with_reducible first | exact HB.out | apply below_alloc | apply pw_below_drewN | apply below_drew1) | exact HB.out)⟩
  · replace c3 := Bool.eq_false_iff.mpr c3
    subst c3
    have H1 : (some (⟨#[]⟩ : ByteArray)) = some r := by rw [if_neg (show ¬ (false = true) by decide)] at H; exact H
    clear H
    have H := H1
    clear H1
    obtain rfl := Option.some.inj H
    go_enter Tryd.func16, Tryd.ntmps16
    go_wp2_with (first | ((with_reducible refine gate_callee (f := 36) rfl ?_); refine goesL_ (some 7) rfl rfl Tryd.func36 (by kernel_rfl) rfl #[.slice A0 l0.length c0] rfl (by (try simp only [List.map_toArray, List.map_cons, List.map_nil]); first | done | rfl | (simp only [List.length_drop, List.length_take]; rfl)) ?_; (with_reducible refine (oid_Valid.calls _ _ l0 false _ ?side1 ?side2 A2.out).mono ?_); (case side1 => repeat (first | exact HR0.out | (with_reducible refine Kd.C_alloc ?_ _) | (with_reducible refine Kd.C_drewN ?_ _) | (with_reducible refine Kd.C_drew ?_))); (case side2 => exact HC0.out); rintro e w' ⟨rfl, ⟨nd, rfl⟩⟩; refine ⟨_, rfl, ?_⟩))
    go_ret
    exact ⟨by first | rfl | (simp [errW_none, errW_some] <;> rfl) | (simp [*, errW_none, errW_some] <;> rfl), by repeat (first | (with_reducible first | exact HB.out | apply below_alloc | apply pw_below_drewN | apply below_drew1) | exact HB.out)⟩

end Go.Proofs.YtjoncjnmhhimhaaDoor.PText
end

section
/- oid.Text returns the text of an identifier, and the empty string of another list: the printed loop comes to the plain function. -/
namespace Go.Proofs.YtjoncjnmhhimhaaDoor.Hand
set_option linter.unusedVariables false
set_option linter.unusedSimpArgs false
open Go.RowKit Go.Proofs.YtjoncjnmhhimhaaDoorW.PrintWords Go.Proofs.YtjoncjnmhhimhaaDoorW.PrintLast Go.Proofs.YtjoncjnmhhimhaaDoorW.PrintMore
open Go.Proofs.YtjoncjnmhhimhaaDoor.Oid


theorem dec_len (u : Nat) (h : u < 18446744073709551616) : (Lib.decDigits u).length ≤ 20 := by
  rw [Lib.decDigits_length]
  rcases Nat.eq_zero_or_pos u with rfl | h1
  · rw [Lib.nDigits_small (by omega)]; omega
  · have := Lib.numDigits_eq u h1 h
    split at this <;> omega
theorem join_len (ws : List (List UInt8)) (m : Nat) (h : ∀ w ∈ ws, w.length ≤ m) : (Lib.join ws [46]).length ≤ ws.length * (m + 1) := by
  induction ws with
  | nil => simp [join_nil]
  | cons w ws ih =>
    have hw := h w (by simp)
    cases ws with
    | nil => rw [join_one]; simp; omega
    | cons v ws =>
      have := ih (fun x hx => h x (List.mem_cons_of_mem _ hx))
      rw [join_cons]
      simp only [List.length_append, List.length_cons] at this ⊢
      rw [Nat.add_mul (ws.length + 1) 1 (m + 1)]
      omega

theorem text_loop (l : List Int) (hn : l.length ≤ 20) (hp : ∀ x ∈ l, 0 ≤ x ∧ x < 4294967296) : ∀ (d k i : Nat) (acc : List ByteArray), i + d = l.length → acc.length = i → d < k →
    PText.oid_Text.l0 k acc l (l.length : Int) (i : Int) = strings_Join.f (acc ++ (l.drop i).map fun n => decB n.toNat) ⟨#[46]⟩ := by
  intro d
  induction d with
  | zero =>
    intro k i acc h1 h2 h3
    obtain ⟨k, rfl⟩ : ∃ m, k = m + 1 := ⟨k - 1, by omega⟩
    have : l.drop i = [] := List.drop_eq_nil_of_le (by omega)
    simp only [PText.oid_Text.l0]
    rw [if_neg (by omega), this]
    simp
  | succ d ih =>
    intro k i acc h1 h2 h3
    obtain ⟨k, rfl⟩ : ∃ m, k = m + 1 := ⟨k - 1, by omega⟩
    have hlt : i < l.length := by omega
    have hrd : rd l (i : Int) = l[i] := by simp [rd, List.getD, hlt]
    obtain ⟨p0, p1⟩ := hp l[i] (List.getElem_mem hlt)
    simp only [PText.oid_Text.l0]
    rw [if_pos (by omega), if_pos (by omega), if_pos (by omega), hrd, u64_in _ p0 (by omega)]
    have hf : strconv_FormatUint.f l[i] 10 = some (decB l[i].toNat) := by unfold strconv_FormatUint.f; rw [if_pos ⟨p0, by omega, rfl⟩]
    rw [hf]
    simp only [Option.bind_some]
    rw [if_pos (by omega), i64_in _ (by omega) (by omega)]
    have := ih k (i + 1) (acc ++ [decB l[i].toNat]) (by omega) (by simp; omega) (by omega)
    rw [show ((i + 1 : Nat) : Int) = (i : Int) + 1 from by omega] at this
    rw [this, List.drop_eq_getElem_cons hlt, List.map_cons, List.append_assoc]
    rfl

theorem valid_parts {l : List Int} (h : validB l = true) : 2 ≤ l.length ∧ l.length ≤ 20 ∧ l.getD 0 0 ≤ 2 ∧ (2 ≤ l.getD 0 0 ∨ l.getD 1 0 < 40) ∧ ∀ n ∈ l, n < 4294967216 := by
  unfold validB at h
  simp only [Bool.and_eq_true, Bool.or_eq_true, decide_eq_true_eq, List.all_eq_true] at h
  exact ⟨h.1.1.1.1, h.1.1.1.2, h.1.1.2, h.1.2, h.2⟩

theorem text_comes (l : List Int) (hp : ∀ x ∈ l, 0 ≤ x) : PText.oid_Text.f 21 l = some (textB l) := by
  unfold PText.oid_Text.f oid_Valid.f
  simp only [Option.bind_some]
  by_cases hv : validB l = true
  · obtain ⟨h1, h2, _, _, h5⟩ := valid_parts hv
    rw [if_pos hv]
    have := text_loop l h2 (fun x hx => ⟨hp x hx, by have := h5 x hx; omega⟩) l.length 21 0 [] (by omega) rfl (by omega)
    rw [show ((0 : Nat) : Int) = 0 from rfl] at this
    rw [this]
    unfold textB
    rw [if_pos hv]
    have e : (([] ++ (List.drop 0 l).map fun n => decB n.toNat) : List ByteArray).map (·.data.toList) = l.map fun n => Lib.decDigits n.toNat := by
      simp [decB]
    have hl : (Lib.join (l.map fun n => Lib.decDigits n.toNat) [46]).length ≤ 140737488355328 := by
      have := join_len (l.map fun n => Lib.decDigits n.toNat) 20 (fun w hw => by
        obtain ⟨n, hn, rfl⟩ := List.mem_map.1 hw
        exact dec_len _ (by have := h5 n hn; omega))
      rw [List.length_map] at this
      omega
    unfold strings_Join.f
    rw [e, if_pos ⟨by simp; omega, hl⟩]
    rfl
  · rw [if_neg hv]
    unfold textB
    rw [if_neg hv]

theorem oid_Text.calls (A0 : Option Addr) (c0 : Nat) (l0 : List Int) (r : ByteArray) (w : World) (HLd : LaidOk w) (hr0 : Kd.C (Kd.int .u32) w A0 l0.length l0) (hc0 : l0.length ≤ c0) (h : oid_Text.f l0 = some r) :
    Calls Tryd.prog 16 #[.slice A0 l0.length c0] w fun e w' => e = .returned (.string r) ∧ Below w.heap.size w w' := by
  unfold oid_Text.f at h
  by_cases hp : (l0.all fun x => decide (0 ≤ x)) = true
  · rw [if_pos hp] at h
    refine PText.oid_Text.calls 21 A0 c0 l0 r w HLd hr0 hc0 ?_
    rw [text_comes l0 (fun x hx => by simpa using List.all_eq_true.1 hp x hx)]
    exact h
  · rw [if_neg hp] at h
    cases h

end Go.Proofs.YtjoncjnmhhimhaaDoor.Hand
end

section
/- pyxref02.Decimal of a number that is not negative gives its decimal digits. -/
namespace Go.Proofs.YtjoncjnmhhimhaaDoor.Hand
set_option linter.unusedVariables false
set_option linter.unusedSimpArgs false
open Go.RowKit Go.Proofs.YtjoncjnmhhimhaaDoorW.PrintWords Go.Proofs.YtjoncjnmhhimhaaDoorW.PrintLast Go.Proofs.YtjoncjnmhhimhaaDoorW.PrintMore

theorem decB_small {n : Nat} (h : n < 10) : decB n = (⟨#[48, 49, 50, 51, 52, 53, 54, 55, 56, 57]⟩ : ByteArray).extract n (n + 1) := by
  have : ∀ x : Fin 10, (⟨#[UInt8.ofNat (48 + x.val)]⟩ : ByteArray) = (⟨#[48, 49, 50, 51, 52, 53, 54, 55, 56, 57]⟩ : ByteArray).extract x.val (x.val + 1) := by decide +kernel
  unfold decB
  rw [Lib.decDigits_one h]
  exact this ⟨n, h⟩
theorem decB_big {n : Nat} (h : ¬ n < 10) : decB n = decB (n / 10) ++ decB (n % 10) := by
  unfold decB
  rw [Lib.decDigits, dif_neg h, Lib.decDigits_one (show n % 10 < 10 by omega)]
  apply ByteArray.ext
  simp
theorem decB_size (n : Nat) (h : n < 1000000000000000000) : (decB n).size ≤ 20 := by
  show (Lib.decDigits n).toArray.size ≤ 20
  rw [List.size_toArray]
  exact dec_len n (by omega)
theorem decimal_comes : ∀ (k n : Nat), n < 10 ^ k → n < 1000000000000000000 → 0 < k → PDec.pyxref02_Decimal.f k (n : Int) = some (decB n) := by
  intro k
  induction k with
  | zero => intro n _ _ h; exact absurd h (by omega)
  | succ k ih =>
    intro n h1 h2 _
    rw [PDec.pyxref02_Decimal.f, if_neg (by omega), if_neg (by omega)]
    have hex : ∀ m : Nat, m < 10 → (⟨#[48, 49, 50, 51, 52, 53, 54, 55, 56, 57]⟩ : ByteArray).extract ((m : Int)).toNat (((m : Int) + 1)).toNat = decB m := by
      intro m hm
      rw [decB_small hm, show ((m : Int) + 1).toNat = m + 1 by omega, Int.toNat_natCast]
    by_cases h10 : n < 10
    · rw [if_pos (by omega), if_pos (by omega), i64_in _ (by omega) (by omega), if_pos (by omega), if_pos (by omega), hex n h10]
    · have hk : 0 < k := by
        rcases Nat.eq_zero_or_pos k with rfl | hk
        · simp at h1; omega
        · exact hk
      rw [if_neg (by omega), Int.tdiv_eq_ediv_of_nonneg (by omega), Int.tmod_eq_emod_of_nonneg (by omega), i64_in _ (by omega) (by omega), i64_in _ (by omega) (by omega),
        show ((n : Int) / 10) = ((n / 10 : Nat) : Int) by omega, ih (n / 10) (by rw [Nat.pow_succ] at h1; omega) (by omega) hk]
      simp only [Option.bind_some]
      have hs := decB_size (n / 10) (by omega)
      have hs2 := decB_size (n % 10) (by omega)
      rw [show ((n : Int) % 10) = ((n % 10 : Nat) : Int) by omega, if_pos (by omega), if_pos (by omega), if_pos (by omega), hex (n % 10) (by omega), if_pos (by omega), ← decB_big h10]

def pyxref02_Decimal.f (a0 : Int) : Option ByteArray := if 0 ≤ a0 ∧ a0 < 1000000000000000000 then some (decB a0.toNat) else none
theorem pyxref02_Decimal.calls (a0 : Int) (r : ByteArray) (w : World) (h : pyxref02_Decimal.f a0 = some r) :
    Calls Tryd.prog 44 #[.int .i64 a0] w fun e w' => e = .returned (.string r) ∧ Below w.heap.size w w' := by
  unfold pyxref02_Decimal.f at h
  by_cases hp : 0 ≤ a0 ∧ a0 < 1000000000000000000
  · rw [if_pos hp] at h
    obtain ⟨n, rfl⟩ := Int.eq_ofNat_of_zero_le hp.1
    refine PDec.pyxref02_Decimal.calls 18 n r w ?_
    rw [decimal_comes 18 n (by omega) (by omega) (by omega)]
    exact h
  · rw [if_neg hp] at h
    cases h

end Go.Proofs.YtjoncjnmhhimhaaDoor.Hand
end

section
-- Written by the kit's print.py, driven by this place's wip/tools/myprint.py. Not trusted: Lean checks it.
namespace Go.Proofs.YtjoncjnmhhimhaaDoor.PRefT
open Go.RowKit Go.Proofs.YtjoncjnmhhimhaaDoor.Hand Go.Proofs.YtjoncjnmhhimhaaDoorW.PrintWords Go.Proofs.YtjoncjnmhhimhaaDoorW.PrintLast Go.Proofs.YtjoncjnmhhimhaaDoorW.PrintMore
attribute [local go_sem] max2_int min2_int max_two min_two max_three min_three max_four min_four   -- for this text's walks alone
set_option linter.unusedVariables false
set_option linter.unusedSimpArgs false



def errW : Option Int → Value
  | none => .nilIface
  | some c => .iface 0 (.int .i64 c)
theorem errW_none : errW none = .nilIface := rfl
theorem errW_some (c : Int) : errW (some c) = .iface 0 (.int .i64 c) := rfl

-- the values' own types
def rd_L1 (xs : List (List Int)) (i : Int) : (List Int) := xs.getD i.toNat ([] : List Int)
theorem at_L1 {w : World} {A : Option Addr} {n : Nat} {xs : List (List Int)} (h : Kd.C (Kd.slice 27 (Kd.int .u32)) w A n xs) (i : Int) (h0 : 0 ≤ i) (h1 : i < n) : ∃ ad A0 c0, A = some ad ∧ w.cell? (ad.add i.toNat) = some (.slice A0 (rd_L1 xs i).length c0) ∧ (rd_L1 xs i).length ≤ c0 ∧ (Kd.int .u32).C w A0 (rd_L1 xs i).length (rd_L1 xs i) := by
  obtain ⟨ad, c, e, _, hK, hc0⟩ := Kd.C_get h ([] : List Int) i h0 h1
  have hc : ∀ j u, c[j]? = some u → w.cell? (ad.add (i.toNat * 1 + j)) = some u := hc0
  obtain ⟨A0, c0, rfl, l0, g0⟩ := hK
  exact ⟨ad, A0, c0, e, by have hq := hc 0 _ rfl; rwa [Nat.mul_one, Nat.add_zero] at hq, l0, g0⟩

end Go.Proofs.YtjoncjnmhhimhaaDoor.PRefT
namespace Go.Proofs.YtjoncjnmhhimhaaDoor.PRefT
open Go.RowKit Go.Proofs.YtjoncjnmhhimhaaDoor.Hand Go.Proofs.YtjoncjnmhhimhaaDoorW.PrintWords Go.Proofs.YtjoncjnmhhimhaaDoorW.PrintLast Go.Proofs.YtjoncjnmhhimhaaDoorW.PrintMore
attribute [local go_sem] max2_int min2_int max_two min_two max_three min_three max_four min_four   -- for this text's walks alone
set_option linter.unusedVariables false
set_option linter.unusedSimpArgs false

-- BY CONTRACT: function 23 (pyxref09_Valid)

-- BY CONTRACT: function 44 (pyxref02_Decimal)

/-! ### pyxref09_Text: function 21 -/
def pyxref09_Text.l0 : Nat → List Int → ByteArray → Int → Option (ByteArray)
  | 0, _, _, _ => none
  | k + 1, x0, x3, x4 => if x4 < (x0.length : Int) then (if x3.size + 1 ≤ 9223372036854775807 then (if 0 ≤ x4 then ((pyxref02_Decimal.f (wrap64 (rd x0 x4))).bind fun t105 => (if (x3 ++ (⟨#[46]⟩ : ByteArray)).size + t105.size ≤ 9223372036854775807 then (pyxref09_Text.l0 k x0 ((x3 ++ (⟨#[46]⟩ : ByteArray)) ++ t105) (wrap64 (x4 + 1))) else (none))) else (none)) else (none)) else (some x3)
def pyxref09_Text.f (k : Nat) (l0 : List Int) : Option (ByteArray) := (pyxref09_Valid.f l0).bind fun t101 => (if t101 = true then (if 0 < (l0.length : Int) then ((pyxref02_Decimal.f (wrap64 (rd l0 0))).bind fun t103 => (pyxref09_Text.l0 k l0 t103 1)) else (none)) else (some (⟨#[]⟩ : ByteArray)))
theorem pyxref09_Text.mono_l : ∀ k, (∀ y0 y1 y2, LeO (pyxref09_Text.l0 k y0 y1 y2) (pyxref09_Text.l0 (k + 1) y0 y1 y2))
  | 0 => fun _ _ _ r h => by simp [pyxref09_Text.l0] at h
  | k + 1 => by
    have ih0 := pyxref09_Text.mono_l k
    · intro y0 y1 y2
      unfold pyxref09_Text.l0
      repeat' first
      | (with_reducible exact ih0 _ _ _)
      | (with_reducible exact LeO.refl _)
      | (with_reducible exact LeO.none _)
      | (with_reducible refine LeO.ite ?_ ?_)
      | (with_reducible refine LeO.bind ?_ (fun _ => ?_))
      | exact ih0 _ _ _
      | exact LeO.none _
      | refine LeO.ite ?_ ?_
      | refine LeO.bind ?_ (fun _ => ?_)
theorem pyxref09_Text.mono : ∀ a0 k, LeO (pyxref09_Text.f k a0) (pyxref09_Text.f (k + 1) a0) := by
  intro a0 k
  have ih0 := pyxref09_Text.mono_l k
  unfold pyxref09_Text.f
  repeat' first
      | (with_reducible exact ih0 _ _ _)
      | (with_reducible exact LeO.refl _)
      | (with_reducible exact LeO.none _)
      | (with_reducible refine LeO.ite ?_ ?_)
      | (with_reducible refine LeO.bind ?_ (fun _ => ?_))
      | exact ih0 _ _ _
      | exact LeO.none _
      | refine LeO.ite ?_ ?_
      | refine LeO.bind ?_ (fun _ => ?_)
set_option maxHeartbeats 8000000 in
set_option maxRecDepth 100000 in
theorem pyxref09_Text.calls (k : Nat) (A0 : Option Addr) (c0 : Nat) (l0 : List Int) (r : ByteArray) (w : World) (hr0 : Kd.C (Kd.int .u32) w A0 l0.length l0) (hc0 : l0.length ≤ c0) (h : pyxref09_Text.f k l0 = some r) :
    Calls Tryd.prog 21 #[.slice A0 l0.length c0] w fun e w' => e = .returned (.string r) ∧ Below w.heap.size w w' := by
  have HR0 := Aside0.mk hr0
  have HC0 := Aside0.mk hc0
  clear hr0 hc0
  have HB := Aside0.mk (Below.refl w.heap.size w)
  have H : ((pyxref09_Valid.f l0).bind fun t101 => (if t101 = true then (if 0 < (l0.length : Int) then ((pyxref02_Decimal.f (wrap64 (rd l0 0))).bind fun t103 => (pyxref09_Text.l0 k l0 t103 1)) else (none)) else (some (⟨#[]⟩ : ByteArray)))) = some r := h
  clear h
  replace H := Option.bind_eq_some_iff.mp H
  obtain ⟨t101, A20, H⟩ := H
  replace H : (if t101 = true then (if 0 < (l0.length : Int) then ((pyxref02_Decimal.f (wrap64 (rd l0 0))).bind fun t103 => (pyxref09_Text.l0 k l0 t103 1)) else (none)) else (some (⟨#[]⟩ : ByteArray))) = some r := H
  have A2 := Aside0.mk A20
  clear A20
  by_cases c3 : t101 = true
  · subst c3
    have H1 : (if 0 < (l0.length : Int) then ((pyxref02_Decimal.f (wrap64 (rd l0 0))).bind fun t103 => (pyxref09_Text.l0 k l0 t103 1)) else (none)) = some r := by rw [if_pos rfl] at H; exact H
    clear H
    have H := H1
    clear H1
    by_cases c4 : 0 < (l0.length : Int)
    · rw [if_pos c4] at H
      have c4b0 : decide (0 < (l0.length : Int)) = true := decide_eq_true c4
      have c4b1 : decide (0 < l0.length) = true := decide_eq_true (by omega)
      clear c4
      replace H := Option.bind_eq_some_iff.mp H
      obtain ⟨t103, A50, H⟩ := H
      replace H : (pyxref09_Text.l0 k l0 t103 1) = some r := H
      have A5 := Aside0.mk A50
      clear A50
      have H' := Aside0.mk H
      clear H
      go_enter Tryd.func21, Tryd.ntmps21
      go_wp2_with (first | ((with_reducible refine gate_callee (f := 23) rfl ?_); refine goesL_ (some 6) rfl rfl Tryd.func23 (by kernel_rfl) rfl #[.slice A0 l0.length c0] rfl (by (try simp only [List.map_toArray, List.map_cons, List.map_nil]); first | done | rfl | (simp only [List.length_drop, List.length_take]; rfl)) ?_; (with_reducible refine (pyxref09_Valid.calls _ _ l0 true _ ?side1 ?side2 A2.out).mono ?_); (case side1 => repeat (first | exact HR0.out | (with_reducible refine Kd.C_alloc ?_ _) | (with_reducible refine Kd.C_drewN ?_ _) | (with_reducible refine Kd.C_drew ?_))); (case side2 => exact HC0.out); rintro e w' ⟨rfl, ⟨nd, rfl⟩⟩; refine ⟨_, rfl, ?_⟩; have p102 : 0 ≤ (0 : Int) := (by omega); have q102 : 0 < (l0.length : Int) := of_decide_eq_true (by first | (with_reducible assumption) | assumption); obtain ⟨ad102, e102, hx102_0⟩ := Kd.at_int HR0.out 0 p102 q102; cases e102; have qi102 : (0 < l0.length) = True := eq_true (by omega); (try rw [show ((0 : Int)).toNat = 0 from rfl] at hx102_0); (try rw [Addr.add_zero'] at hx102_0); replace p102 := eq_true p102; replace q102 := eq_true q102) | ((with_reducible refine gate_callee (f := 44) rfl ?_); refine goesL_ (some 12) rfl rfl Tryd.func44 (by kernel_rfl) rfl #[.int .i64 (wrap64 (rd l0 0))] rfl (by (try simp only [List.map_toArray, List.map_cons, List.map_nil]); first | done | rfl | (simp only [List.length_drop, List.length_take]; rfl)) ?_; (with_reducible refine (pyxref02_Decimal.calls (wrap64 (rd l0 0)) t103 _ A5.out).mono ?_); rintro e w6 ⟨rfl, hb⟩; refine ⟨_, rfl, ?_⟩; have n0_ := Aside0.mk (below_step (by repeat (first | (with_reducible first | exact HB.out | apply below_alloc | apply pw_below_drewN | apply below_drew1) | exact HB.out)) hb); clear HB; have HB := n0_; clear n0_; (try clear hb); (try clear hb2); (try clear hk); (try clear hi)))
      go_loopg [3, 4] k (fun kq v3 v4 w' => ∃ (x3_1 : ByteArray) (x4_1 : Int), v3 = .string x3_1 ∧ v4 = .int .i64 x4_1 ∧ Aside0 (pyxref09_Text.l0 kq l0 x3_1 x4_1 = some r) ∧ Aside0 (kq ≤ k) ∧ Aside0 (Below w.heap.size w w'))
      case atStart => exact ⟨(t103), (1), (by first | rfl | (simp; done) | (simp [*]; done)), (by first | rfl | (simp; done) | (simp [*]; done)), H', ⟨Nat.le_refl _⟩, ⟨by repeat (first | (with_reducible first | exact HB.out | apply below_alloc | apply pw_below_drewN | apply below_drew1) | exact HB.out)⟩⟩
      case round =>
        clear H'
        try clear p1
        try clear q1
        try clear hx1
        try clear qi1
        try clear c2
        try clear p2
        try clear c3
        try clear c4
        try clear c4b0
        try clear c4b1
        try clear p6
        try clear hx102_0
        try clear p102
        try clear q102
        obtain ⟨x3_1, x4_1, rfl, rfl, HA, HK1, HB⟩ := hrel
        cases gk with
        | zero => exact absurd HA.out (by simp [pyxref09_Text.l0])
        | succ k1 =>
          have H := HA.out
          clear HA
          simp only [pyxref09_Text.l0] at H
          by_cases c7 : x4_1 < (l0.length : Int)
          · rw [if_pos c7] at H
            have c7b0 : decide (x4_1 < (l0.length : Int)) = true := decide_eq_true c7
            clear c7
            by_cases c8 : x3_1.size + 1 ≤ 9223372036854775807
            · rw [if_pos c8] at H
              have c8b0 := eq_true c8
              have c8b1 : decide (x3_1.size + 1 ≤ 9223372036854775807) = true := decide_eq_true c8
              try have c8b2 : (9223372036854775807 < x3_1.size + 1) = False := eq_false (Nat.not_lt.2 c8)
              by_cases c9 : 0 ≤ x4_1
              · rw [if_pos c9] at H
                have c9b0 : decide (0 ≤ x4_1) = true := decide_eq_true c9
                clear c9
                replace H := Option.bind_eq_some_iff.mp H
                obtain ⟨t105, A100, H⟩ := H
                replace H : (if (x3_1 ++ (⟨#[46]⟩ : ByteArray)).size + t105.size ≤ 9223372036854775807 then (pyxref09_Text.l0 k1 l0 ((x3_1 ++ (⟨#[46]⟩ : ByteArray)) ++ t105) (wrap64 (x4_1 + 1))) else (none)) = some r := H
                have A10 := Aside0.mk A100
                clear A100
                by_cases c11 : (x3_1 ++ (⟨#[46]⟩ : ByteArray)).size + t105.size ≤ 9223372036854775807
                · rw [if_pos c11] at H
                  have c11b0 := eq_true c11
                  have c11b1 : decide ((x3_1 ++ (⟨#[46]⟩ : ByteArray)).size + t105.size ≤ 9223372036854775807) = true := decide_eq_true c11
                  try have c11b2 : (9223372036854775807 < (x3_1 ++ (⟨#[46]⟩ : ByteArray)).size + t105.size) = False := eq_false (Nat.not_lt.2 c11)
                  have c11b3 : (9223372036854775807 < x3_1.size + 1 + t105.size) = False := by
                    have hs_ := c11
                    simp only [ByteArray.size_append] at hs_
                    have l0_ : (⟨#[46]⟩ : ByteArray).size = 1 := rfl
                    exact eq_false (by omega)
                  have H' := Aside0.mk H
                  clear H
                  have p104 : 0 ≤ (x4_1 : Int) := of_decide_eq_true (by first | (with_reducible assumption) | assumption)
                  have q104 : x4_1 < (l0.length : Int) := of_decide_eq_true (by first | (with_reducible assumption) | assumption)
                  obtain ⟨ad104, e104, hx104_0⟩ := Kd.at_int HR0.out x4_1 p104 q104
                  obtain rfl : ad102 = ad104 := (by injection e104)
                  replace hx104_0 := (HB.out.cell (World.block_lt_of_cell? w _ hx104_0)).trans hx104_0
                  replace p104 := eq_true p104
                  replace q104 := eq_true q104
                  go_wp2_with (first | ((with_reducible refine gate_callee (f := 44) rfl ?_); refine goesL_ (some 26) rfl rfl Tryd.func44 (by kernel_rfl) rfl #[.int .i64 (wrap64 (rd l0 x4_1))] rfl (by (try simp only [List.map_toArray, List.map_cons, List.map_nil]); first | done | rfl | (simp only [List.length_drop, List.length_take]; rfl)) ?_; (with_reducible refine (pyxref02_Decimal.calls (wrap64 (rd l0 x4_1)) t105 _ A10.out).mono ?_); rintro e w12 ⟨rfl, hb⟩; refine ⟨_, rfl, ?_⟩; have n0_ := Aside0.mk (below_step (by repeat (first | (with_reducible first | exact HB.out | apply below_alloc | apply pw_below_drewN | apply below_drew1) | exact HB.out)) hb); clear HB; have HB := n0_; clear n0_; (try clear hb); (try clear hb2); (try clear hk); (try clear hi)))
                  go_roundg k1
                  case measure => have := HK1.out; omega
                  case rel => exact ⟨((x3_1 ++ (⟨#[46]⟩ : ByteArray)) ++ t105), (wrap64 (x4_1 + 1)), (by first | rfl | (simp; done) | (simp [*]; done)), (by first | rfl | (simp; done) | (simp [*]; done)), H', ⟨by have := HK1.out; omega⟩, ⟨by repeat (first | (with_reducible first | exact HB.out | apply below_alloc | apply pw_below_drewN | apply below_drew1) | exact HB.out)⟩⟩
                · rw [if_neg c11] at H
                  exact absurd H (by simp)
              · rw [if_neg c9] at H
                exact absurd H (by simp)
            · rw [if_neg c8] at H
              exact absurd H (by simp)
          · rw [if_neg c7] at H
            have c7b0 : decide (x4_1 < (l0.length : Int)) = false := decide_eq_false c7
            clear c7
            obtain rfl := Option.some.inj H
            go_wp2
            go_ret
            exact ⟨by first | rfl | (simp [errW_none, errW_some] <;> rfl) | (simp [*, errW_none, errW_some] <;> rfl), by repeat (first | (with_reducible first | exact HB.out | apply below_alloc | apply pw_below_drewN | apply below_drew1) | exact HB.out)⟩
    · rw [if_neg c4] at H
      exact absurd H (by simp)
  · replace c3 := Bool.eq_false_iff.mpr c3
    subst c3
    have H1 : (some (⟨#[]⟩ : ByteArray)) = some r := by rw [if_neg (show ¬ (false = true) by decide)] at H; exact H
    clear H
    have H := H1
    clear H1
    obtain rfl := Option.some.inj H
    go_enter Tryd.func21, Tryd.ntmps21
    go_wp2_with (first | ((with_reducible refine gate_callee (f := 23) rfl ?_); refine goesL_ (some 6) rfl rfl Tryd.func23 (by kernel_rfl) rfl #[.slice A0 l0.length c0] rfl (by (try simp only [List.map_toArray, List.map_cons, List.map_nil]); first | done | rfl | (simp only [List.length_drop, List.length_take]; rfl)) ?_; (with_reducible refine (pyxref09_Valid.calls _ _ l0 false _ ?side1 ?side2 A2.out).mono ?_); (case side1 => repeat (first | exact HR0.out | (with_reducible refine Kd.C_alloc ?_ _) | (with_reducible refine Kd.C_drewN ?_ _) | (with_reducible refine Kd.C_drew ?_))); (case side2 => exact HC0.out); rintro e w' ⟨rfl, ⟨nd, rfl⟩⟩; refine ⟨_, rfl, ?_⟩))
    go_ret
    exact ⟨by first | rfl | (simp [errW_none, errW_some] <;> rfl) | (simp [*, errW_none, errW_some] <;> rfl), by repeat (first | (with_reducible first | exact HB.out | apply below_alloc | apply pw_below_drewN | apply below_drew1) | exact HB.out)⟩

end Go.Proofs.YtjoncjnmhhimhaaDoor.PRefT
end

section
/- pyxref09.Text comes to the same plain function as the program's Text. -/
namespace Go.Proofs.YtjoncjnmhhimhaaDoor.Hand
set_option linter.unusedVariables false
set_option linter.unusedSimpArgs false
open Go.RowKit Go.Proofs.YtjoncjnmhhimhaaDoorW.PrintWords Go.Proofs.YtjoncjnmhhimhaaDoorW.PrintLast Go.Proofs.YtjoncjnmhhimhaaDoorW.PrintMore
open Go.Proofs.YtjoncjnmhhimhaaDoor.Oid

/-- The texts of more numbers, each behind a dot. -/
def dotted (l : List Int) : List UInt8 := l.flatMap fun n => 46 :: Lib.decDigits n.toNat
theorem join_dotted (x : Int) (l : List Int) : Lib.join ((x :: l).map fun n => Lib.decDigits n.toNat) [46] = Lib.decDigits x.toNat ++ dotted l := by
  induction l generalizing x with
  | nil => simp [join_one, dotted]
  | cons y l ih =>
    rw [List.map_cons, List.map_cons, join_cons, ← List.map_cons (f := fun n : Int => Lib.decDigits n.toNat), ih y]
    simp [dotted]
theorem ba_size (l : List UInt8) : (⟨l.toArray⟩ : ByteArray).size = l.length := by
  show l.toArray.size = _
  simp
theorem refText_loop (l : List Int) (hn : l.length ≤ 20) (hp : ∀ x ∈ l, 0 ≤ x ∧ x < 4294967296) : ∀ (d k i : Nat) (acc : List UInt8), i + d = l.length → acc.length ≤ 1000 * (i + 1) → d < k →
    PRefT.pyxref09_Text.l0 k l ⟨acc.toArray⟩ (i : Int) = some ⟨(acc ++ dotted (l.drop i)).toArray⟩ := by
  intro d
  induction d with
  | zero =>
    intro k i acc h1 h2 h3
    obtain ⟨k, rfl⟩ : ∃ m, k = m + 1 := ⟨k - 1, by omega⟩
    have : l.drop i = [] := List.drop_eq_nil_of_le (by omega)
    rw [PRefT.pyxref09_Text.l0, if_neg (by omega), this]
    simp [dotted]
  | succ d ih =>
    intro k i acc h1 h2 h3
    obtain ⟨k, rfl⟩ : ∃ m, k = m + 1 := ⟨k - 1, by omega⟩
    have hlt : i < l.length := by omega
    have hrd : rd l (i : Int) = l[i] := by simp [rd, List.getD, hlt]
    obtain ⟨p0, p1⟩ := hp l[i] (List.getElem_mem hlt)
    have hz := ba_size acc
    have hsz := decB_size l[i].toNat (by omega)
    rw [PRefT.pyxref09_Text.l0, if_pos (by omega), if_pos (by omega), if_pos (by omega), hrd, i64_in _ (by omega) (by omega)]
    unfold pyxref02_Decimal.f
    rw [if_pos ⟨p0, by omega⟩]
    simp only [Option.bind_some]
    have e1 : ((⟨acc.toArray⟩ : ByteArray) ++ (⟨#[46]⟩ : ByteArray)).size = acc.length + 1 := by
      rw [ByteArray.size_append, hz]
      rfl
    rw [if_pos (by omega), i64_in _ (by omega) (by omega)]
    have hd := dec_len l[i].toNat (by omega)
    have := ih k (i + 1) (acc ++ 46 :: Lib.decDigits l[i].toNat) (by omega) (by simp; omega) (by omega)
    rw [show ((i + 1 : Nat) : Int) = (i : Int) + 1 from by omega] at this
    have e2 : (⟨acc.toArray⟩ : ByteArray) ++ (⟨#[46]⟩ : ByteArray) ++ decB l[i].toNat = ⟨(acc ++ 46 :: Lib.decDigits l[i].toNat).toArray⟩ := by
      apply ByteArray.ext
      simp [decB]
    have e3 : dotted (l.drop i) = 46 :: Lib.decDigits l[i].toNat ++ dotted (l.drop (i + 1)) := by
      rw [List.drop_eq_getElem_cons hlt, dotted, List.flatMap_cons]
      rfl
    rw [e2, this, e3, List.append_assoc]

theorem refText_comes (l : List Int) (hp : ∀ x ∈ l, 0 ≤ x) : PRefT.pyxref09_Text.f 22 l = some (textB l) := by
  unfold PRefT.pyxref09_Text.f pyxref09_Valid.f textB
  simp only [Option.bind_some]
  by_cases hv : validB l = true
  · rw [if_pos hv, if_pos hv]
    obtain ⟨h1, h2, _, _, h5⟩ := valid_parts hv
    have hpp : ∀ x ∈ l, 0 ≤ x ∧ x < 4294967296 := fun x hx => ⟨hp x hx, by have := h5 x hx; omega⟩
    match l, h1, h2, hpp with
    | x :: l, h1, h2, hpp =>
      obtain ⟨p0, p1⟩ := hpp x (by simp)
      rw [if_pos (by simp), show rd (x :: l) 0 = x from rfl, i64_in _ (by omega) (by omega)]
      unfold pyxref02_Decimal.f
      rw [if_pos ⟨p0, by omega⟩]
      simp only [Option.bind_some]
      have hd := dec_len x.toNat (by omega)
      have := refText_loop (x :: l) h2 hpp l.length 22 1 (Lib.decDigits x.toNat) (by simp; omega) (by omega) (by simp at h2; omega)
      rw [show ((1 : Nat) : Int) = 1 from rfl] at this
      show PRefT.pyxref09_Text.l0 22 (x :: l) ⟨(Lib.decDigits x.toNat).toArray⟩ 1 = _
      rw [this]
      unfold textL
      rw [join_dotted]
      rfl
  · rw [if_neg hv, if_neg hv]

def pyxref09_Text.f (l0 : List Int) : Option ByteArray := oid_Text.f l0
theorem pyxref09_Text.calls (A0 : Option Addr) (c0 : Nat) (l0 : List Int) (r : ByteArray) (w : World) (HLd : LaidOk w) (hr0 : Kd.C (Kd.int .u32) w A0 l0.length l0) (hc0 : l0.length ≤ c0) (h : pyxref09_Text.f l0 = some r) :
    Calls Tryd.prog 21 #[.slice A0 l0.length c0] w fun e w' => e = .returned (.string r) ∧ Below w.heap.size w w' := by
  unfold pyxref09_Text.f oid_Text.f at h
  by_cases hp : (l0.all fun x => decide (0 ≤ x)) = true
  · rw [if_pos hp] at h
    refine PRefT.pyxref09_Text.calls 22 A0 c0 l0 r w hr0 hc0 ?_
    rw [refText_comes l0 (fun x hx => by simpa using List.all_eq_true.1 hp x hx)]
    exact h
  · rw [if_neg hp] at h
    cases h

end Go.Proofs.YtjoncjnmhhimhaaDoor.Hand
end

section
-- Written by the kit's print.py, driven by this place's wip/tools/myprint.py. Not trusted: Lean checks it.
namespace Go.Proofs.YtjoncjnmhhimhaaDoor.PT13s
open Go.RowKit Go.Proofs.YtjoncjnmhhimhaaDoor.Hand Go.Proofs.YtjoncjnmhhimhaaDoorW.PrintWords Go.Proofs.YtjoncjnmhhimhaaDoorW.PrintLast Go.Proofs.YtjoncjnmhhimhaaDoorW.PrintMore
attribute [local go_sem] max2_int min2_int max_two min_two max_three min_three max_four min_four   -- for this text's walks alone
set_option linter.unusedVariables false
set_option linter.unusedSimpArgs false



def errW : Option Int → Value
  | none => .nilIface
  | some c => .iface 0 (.int .i64 c)
theorem errW_none : errW none = .nilIface := rfl
theorem errW_some (c : Int) : errW (some c) = .iface 0 (.int .i64 c) := rfl

-- the values' own types
def rd_L1 (xs : List (List Int)) (i : Int) : (List Int) := xs.getD i.toNat ([] : List Int)
theorem at_L1 {w : World} {A : Option Addr} {n : Nat} {xs : List (List Int)} (h : Kd.C (Kd.slice 27 (Kd.int .u32)) w A n xs) (i : Int) (h0 : 0 ≤ i) (h1 : i < n) : ∃ ad A0 c0, A = some ad ∧ w.cell? (ad.add i.toNat) = some (.slice A0 (rd_L1 xs i).length c0) ∧ (rd_L1 xs i).length ≤ c0 ∧ (Kd.int .u32).C w A0 (rd_L1 xs i).length (rd_L1 xs i) := by
  obtain ⟨ad, c, e, _, hK, hc0⟩ := Kd.C_get h ([] : List Int) i h0 h1
  have hc : ∀ j u, c[j]? = some u → w.cell? (ad.add (i.toNat * 1 + j)) = some u := hc0
  obtain ⟨A0, c0, rfl, l0, g0⟩ := hK
  exact ⟨ad, A0, c0, e, by have hq := hc 0 _ rfl; rwa [Nat.mul_one, Nat.add_zero] at hq, l0, g0⟩

end Go.Proofs.YtjoncjnmhhimhaaDoor.PT13s
namespace Go.Proofs.YtjoncjnmhhimhaaDoor.PT13s
open Go.RowKit Go.Proofs.YtjoncjnmhhimhaaDoor.Hand Go.Proofs.YtjoncjnmhhimhaaDoorW.PrintWords Go.Proofs.YtjoncjnmhhimhaaDoorW.PrintLast Go.Proofs.YtjoncjnmhhimhaaDoorW.PrintMore
attribute [local go_sem] max2_int min2_int max_two min_two max_three min_three max_four min_four   -- for this text's walks alone
set_option linter.unusedVariables false
set_option linter.unusedSimpArgs false

-- BY CONTRACT: function 21 (pyxref09_Text)

/-! ### pyxlaw13_same: function 26 -/
def pyxlaw13_same.f (a0_0 : Int) (a0_1 : Int) (a0_2 : ByteArray) (a0_3 : Int) (a0_4 : Int) (a0_5 : Int) (a0_6 : Int) (l0_7 : List Int) (a0_8 : Int) (a0_9 : Int) (a1_0 : Int) (a1_1 : Int) (a1_2 : ByteArray) (a1_3 : Int) (a1_4 : Int) (a1_5 : Int) (a1_6 : Int) (a1_7 : ByteArray) (a1_8 : Int) (a1_9 : Int) : Option (Bool) := if a0_0 = a1_0 then (if a0_1 = a1_1 then (if a0_2.toList = a1_2.toList then (if a0_3 = a1_3 then (if a0_4 = a1_4 then (if a0_5 = a1_5 then (if a0_6 = a1_6 then ((pyxref09_Text.f l0_7).bind fun t103 => (if t103.toList = a1_7.toList then (if a0_8 = a1_8 then (some (a0_9 == a1_9)) else (none)) else (none))) else (none)) else (none)) else (none)) else (none)) else (none)) else (none)) else (none)
def pyxlaw13_same.T1 : Bool × List (List Nat × List Nat) := (true, [([], []), ([0], [0]), ([], []), ([2], [2]), ([1, 3], [1, 3]), ([4], [4]), ([5], [5]), ([6, 5], [5, 6]), ([5], [5]), ([8, 5], [5, 8]), ([7, 9, 5], [5, 7, 9]), ([5, 10], [5, 10]), ([11, 5], [11]), ([12], [12]), ([13, 12], [12, 13]), ([12], [12]), ([15, 12], [12, 15]), ([14, 16, 12], [12, 14, 16]), ([12, 17], [12, 17]), ([18, 12], [18]), ([19], [19]), ([20, 19], [19, 20]), ([19], [19]), ([22, 19], [19, 22]), ([21, 23, 19], [19, 21, 23]), ([19, 24], [19, 24]), ([25, 19], [25]), ([26], [26]), ([27, 26], [26, 27]), ([26], [26]), ([29, 26], [26, 29]), ([28, 30, 26], [26, 28, 30]), ([26, 31], [26, 31]), ([32, 26], [32]), ([33], [33]), ([34, 33], [33, 34]), ([33], [33]), ([36, 33], [33, 36]), ([35, 37, 33], [33, 35, 37]), ([33, 38], [33, 38]), ([39, 33], [39]), ([40], [40]), ([41, 40], [40, 41]), ([40], [40]), ([43, 40], [40, 43]), ([42, 44, 40], [40, 42, 44]), ([40, 45], [40, 45]), ([46, 40], [46]), ([47], [47]), ([48, 47], [47, 48]), ([49, 47, 47], [47, 49]), ([47], [47]), ([51, 47], [47, 51]), ([50, 52, 47], [47, 50, 52]), ([47, 53], [47, 53]), ([54, 50], [54]), ([55], [55]), ([56, 55], [55, 56]), ([55], [55]), ([58, 55], [55, 58]), ([57, 59, 55], [55, 57, 59]), ([55, 60], [55, 60]), ([61, 55], [61]), ([62], [62]), ([63, 62], [62, 63]), ([62], [62]), ([65, 62], [62, 65]), ([64, 66, 62], [62, 64, 66]), ([62, 67], [62, 67]), ([68, 62, 0, 1, 2, 3, 4, 5, 6, 7, 8, 9, 10, 11, 12, 13, 14, 15, 16, 17, 18, 19, 20, 21, 22, 23, 24, 25, 26, 27, 28, 29, 30, 31, 32, 33, 34, 35, 36, 37, 38, 39, 40, 41, 42, 43, 44, 45, 46, 47, 48, 49, 50, 51, 52, 53, 54, 55, 56, 57, 58, 59, 60, 61, 62, 63, 64, 65, 66, 67, 68], [68])])
def pyxlaw13_same.B1 : List Nat := [0, 1, 0, 4, 15, 31, 63, 127, 63, 319, 1023, 2047, 4095, 8191, 16383, 8191, 40959, 131071, 262143, 524287, 1048575, 2097151, 1048575, 5242879, 16777215, 33554431, 67108863, 134217727, 268435455, 134217727, 671088639, 2147483647, 4294967295, 8589934591, 17179869183, 34359738367, 17179869183, 85899345919, 274877906943, 549755813887, 1099511627775, 2199023255551, 4398046511103, 2199023255551, 10995116277759, 35184372088831, 70368744177663, 140737488355327, 281474976710655, 562949953421311, 1125899906842623, 281474976710655, 2533274790395903, 9007199254740991, 18014398509481983, 36028797018963967, 72057594037927935, 144115188075855871, 72057594037927935, 360287970189639679, 1152921504606846975, 2305843009213693951, 4611686018427387903, 9223372036854775807, 18446744073709551615, 9223372036854775807, 46116860184273879039, 147573952589676412927, 295147905179352825855, 590295810358705651711]
theorem pyxlaw13_same.tab1 : rtab .any (opsOf Tryd.f26 1) = pyxlaw13_same.T1 := by kernel_rfl
theorem pyxlaw13_same.bits1 : waitsOk pyxlaw13_same.T1.2 pyxlaw13_same.B1 = true := by kernel_rfl
set_option maxHeartbeats 8000000 in
set_option maxRecDepth 100000 in
theorem pyxlaw13_same.calls (a0_0 : Int) (a0_1 : Int) (a0_2 : ByteArray) (a0_3 : Int) (a0_4 : Int) (a0_5 : Int) (a0_6 : Int) (A0_7 : Option Addr) (c0_7 : Nat) (l0_7 : List Int) (a0_8 : Int) (a0_9 : Int) (a1_0 : Int) (a1_1 : Int) (a1_2 : ByteArray) (a1_3 : Int) (a1_4 : Int) (a1_5 : Int) (a1_6 : Int) (a1_7 : ByteArray) (a1_8 : Int) (a1_9 : Int) (r : Bool) (w : World) (HLd : LaidOk w) (hr0_7 : Kd.C (Kd.int .u32) w A0_7 l0_7.length l0_7) (hc0_7 : l0_7.length ≤ c0_7) (h : pyxlaw13_same.f a0_0 a0_1 a0_2 a0_3 a0_4 a0_5 a0_6 l0_7 a0_8 a0_9 a1_0 a1_1 a1_2 a1_3 a1_4 a1_5 a1_6 a1_7 a1_8 a1_9 = some r) :
    Calls Tryd.prog 26 #[.agg #[.int .i64 a0_0, .int .i64 a0_1, .string a0_2, .int .i64 a0_3, .int .i64 a0_4, .int .i64 a0_5, .int .i64 a0_6, .slice A0_7 l0_7.length c0_7, .int .i64 a0_8, .int .u32 a0_9], .agg #[.int .i64 a1_0, .int .i64 a1_1, .string a1_2, .int .i64 a1_3, .int .i64 a1_4, .int .i64 a1_5, .int .i64 a1_6, .string a1_7, .int .i64 a1_8, .int .u32 a1_9]] w fun e w' => e = .returned (.bool r) ∧ Below w.heap.size w w' := by
  have hu37 := Tryd.underlying37
  have hu42 := Tryd.underlying42
  have HR0_7 := Aside0.mk hr0_7
  have HC0_7 := Aside0.mk hc0_7
  clear hr0_7 hc0_7
  have HB := Aside0.mk (Below.refl w.heap.size w)
  have H : (if a0_0 = a1_0 then (if a0_1 = a1_1 then (if a0_2.toList = a1_2.toList then (if a0_3 = a1_3 then (if a0_4 = a1_4 then (if a0_5 = a1_5 then (if a0_6 = a1_6 then ((pyxref09_Text.f l0_7).bind fun t103 => (if t103.toList = a1_7.toList then (if a0_8 = a1_8 then (some (a0_9 == a1_9)) else (none)) else (none))) else (none)) else (none)) else (none)) else (none)) else (none)) else (none)) else (none)) = some r := h
  clear h
  by_cases c3 : a0_0 = a1_0
  · rw [if_pos c3] at H
    have c3b0 : (a0_0 == a1_0) = true := beq_iff_eq.mpr c3
    have c3b1 : (a0_0 != a1_0) = false := bne_eq_false_iff_eq.mpr c3
    clear c3
    by_cases c4 : a0_1 = a1_1
    · rw [if_pos c4] at H
      have c4b0 : (a0_1 == a1_1) = true := beq_iff_eq.mpr c4
      have c4b1 : (a0_1 != a1_1) = false := bne_eq_false_iff_eq.mpr c4
      clear c4
      by_cases c5 : a0_2.toList = a1_2.toList
      · rw [if_pos c5] at H
        have c5b0 : (a0_2.toList == a1_2.toList) = true := beq_iff_eq.mpr c5
        have c5b1 : (a0_2.toList != a1_2.toList) = false := bne_eq_false_iff_eq.mpr c5
        clear c5
        by_cases c6 : a0_3 = a1_3
        · rw [if_pos c6] at H
          have c6b0 : (a0_3 == a1_3) = true := beq_iff_eq.mpr c6
          have c6b1 : (a0_3 != a1_3) = false := bne_eq_false_iff_eq.mpr c6
          clear c6
          by_cases c7 : a0_4 = a1_4
          · rw [if_pos c7] at H
            have c7b0 : (a0_4 == a1_4) = true := beq_iff_eq.mpr c7
            have c7b1 : (a0_4 != a1_4) = false := bne_eq_false_iff_eq.mpr c7
            clear c7
            by_cases c8 : a0_5 = a1_5
            · rw [if_pos c8] at H
              have c8b0 : (a0_5 == a1_5) = true := beq_iff_eq.mpr c8
              have c8b1 : (a0_5 != a1_5) = false := bne_eq_false_iff_eq.mpr c8
              clear c8
              by_cases c9 : a0_6 = a1_6
              · rw [if_pos c9] at H
                have c9b0 : (a0_6 == a1_6) = true := beq_iff_eq.mpr c9
                have c9b1 : (a0_6 != a1_6) = false := bne_eq_false_iff_eq.mpr c9
                clear c9
                replace H := Option.bind_eq_some_iff.mp H
                obtain ⟨t103, A100, H⟩ := H
                replace H : (if t103.toList = a1_7.toList then (if a0_8 = a1_8 then (some (a0_9 == a1_9)) else (none)) else (none)) = some r := H
                have A10 := Aside0.mk A100
                clear A100
                by_cases c11 : t103.toList = a1_7.toList
                · rw [if_pos c11] at H
                  have c11b0 : (t103.toList == a1_7.toList) = true := beq_iff_eq.mpr c11
                  have c11b1 : (t103.toList != a1_7.toList) = false := bne_eq_false_iff_eq.mpr c11
                  clear c11
                  by_cases c12 : a0_8 = a1_8
                  · rw [if_pos c12] at H
                    have c12b0 : (a0_8 == a1_8) = true := beq_iff_eq.mpr c12
                    have c12b1 : (a0_8 != a1_8) = false := bne_eq_false_iff_eq.mpr c12
                    clear c12
                    obtain rfl := Option.some.inj H
                    go_enter Tryd.func26, Tryd.ntmps26
                    try go_wp2_with (first | ((with_reducible refine gate_dst (N := 2) rfl ?_); refine box_event ?hg (N := 2) ?hd (cs := #[.int .i64 a0_0, .int .i64 a0_1, .string a0_2, .int .i64 a0_3, .int .i64 a0_4, .int .i64 a0_5, .int .i64 a0_6, .slice A0_7 l0_7.length c0_7, .int .i64 a0_8, .int .u32 a0_9]) (t := 37) ?hr ?_; (case hd => rfl); (case hg => rfl); (case hr => first | (go_simp; done) | (go_simp; rfl)); intro gb101 hg w13 hbox hb; have n0_ := Aside0.mk (below_step (by repeat (first | (with_reducible first | exact HB.out | apply below_alloc | apply pw_below_drewN | apply below_drew1) | exact HB.out)) hb); have n1_ := Aside0.mk (hbox); have n2_ := Aside0.mk ((by rw [hg]; exact (below_size (by repeat (first | (with_reducible first | exact HB.out | apply below_alloc | apply pw_below_drewN | apply below_drew1) | exact HB.out))) : w.heap.size ≤ gb101)); have n3_ := Aside0.mk ((by rw [hg]; exact (below_size (by repeat (first | (with_reducible first | exact HB.out | apply below_alloc | apply pw_below_drewN | apply below_drew1) | exact HB.out))) : w.heap.size ≤ gb101)); clear HB; have HB := n0_; have BK101 := n1_; have GW101 := n2_; have GE101 := n3_; clear n0_ n1_ n2_ n3_; clear hb hbox hg) | ((with_reducible refine gate_dst (N := 3) rfl ?_); refine box_event ?hg (N := 3) ?hd (cs := #[.int .i64 a1_0, .int .i64 a1_1, .string a1_2, .int .i64 a1_3, .int .i64 a1_4, .int .i64 a1_5, .int .i64 a1_6, .string a1_7, .int .i64 a1_8, .int .u32 a1_9]) (t := 42) ?hr ?_; (case hd => rfl); (case hg => rfl); (case hr => first | (go_simp; done) | (go_simp; rfl)); intro gb102 hg w14 hbox hb; have n0_ := Aside0.mk (blk_below (g := gb101) (o := .cells #[.int .i64 a0_0, .int .i64 a0_1, .string a0_2, .int .i64 a0_3, .int .i64 a0_4, .int .i64 a0_5, .int .i64 a0_6, .slice A0_7 l0_7.length c0_7, .int .i64 a0_8, .int .u32 a0_9] 37 (0, 0)) (by (with_reducible repeat (first | refine blk_drewN ?_ _ | refine blk_drew ?_ | refine blk_alloc ?_ _)); exact BK101.out) hb); have n1_ := Aside0.mk (below_step (by repeat (first | (with_reducible first | exact HB.out | apply below_alloc | apply pw_below_drewN | apply below_drew1 | refine below_set ?_ GE101.out) | exact HB.out)) hb); have n2_ := Aside0.mk (hbox); have n3_ := Aside0.mk ((by rw [hg]; exact (below_size (by repeat (first | (with_reducible first | exact HB.out | apply below_alloc | apply pw_below_drewN | apply below_drew1 | refine below_set ?_ GE101.out) | exact HB.out))) : w.heap.size ≤ gb102)); have n4_ := Aside0.mk ((by rw [hg]; exact (below_size (by repeat (first | (with_reducible first | exact HB.out | apply below_alloc | apply pw_below_drewN | apply below_drew1 | refine below_set ?_ GE101.out) | exact HB.out))) : w.heap.size ≤ gb102)); have n5_ := Aside0.mk ((by rw [hg]; exact Nat.ne_of_lt (blk_lt (g := gb101) (o := .cells #[.int .i64 a0_0, .int .i64 a0_1, .string a0_2, .int .i64 a0_3, .int .i64 a0_4, .int .i64 a0_5, .int .i64 a0_6, .slice A0_7 l0_7.length c0_7, .int .i64 a0_8, .int .u32 a0_9] 37 (0, 0)) (by (with_reducible repeat (first | refine blk_drewN ?_ _ | refine blk_drew ?_ | refine blk_alloc ?_ _)); exact BK101.out)) : gb101 ≠ gb102)); have n6_ := Aside0.mk ((by rw [hg]; exact Nat.ne_of_gt (blk_lt (g := gb101) (o := .cells #[.int .i64 a0_0, .int .i64 a0_1, .string a0_2, .int .i64 a0_3, .int .i64 a0_4, .int .i64 a0_5, .int .i64 a0_6, .slice A0_7 l0_7.length c0_7, .int .i64 a0_8, .int .u32 a0_9] 37 (0, 0)) (by (with_reducible repeat (first | refine blk_drewN ?_ _ | refine blk_drew ?_ | refine blk_alloc ?_ _)); exact BK101.out)) : gb102 ≠ gb101)); clear BK101; clear HB; have BK101 := n0_; have HB := n1_; have BK102 := n2_; have GW102 := n3_; have GE102 := n4_; have NB101_102 := n5_; have NB102_101 := n6_; clear n0_ n1_ n2_ n3_ n4_ n5_ n6_; clear hb hbox hg))
                    have n0_ := Aside0.mk (blk_drew BK101.out)
                    have n1_ := Aside0.mk (blk_drew BK102.out)
                    have n2_ := Aside0.mk (below_drew1 HB.out)
                    clear BK101
                    clear BK102
                    clear HB
                    have BK101 := n0_
                    have BK102 := n1_
                    have HB := n2_
                    clear n0_ n1_ n2_
                    refine start_ (n := 70) (S := fun w' => w'.cell? ⟨gb101, 0, none⟩ = some (.int .i64 a0_0) ∧ w'.cell? ⟨gb101, 1, none⟩ = some (.int .i64 a0_1) ∧ w'.cell? ⟨gb101, 2, none⟩ = some (.string a0_2) ∧ w'.cell? ⟨gb101, 3, none⟩ = some (.int .i64 a0_3) ∧ w'.cell? ⟨gb101, 4, none⟩ = some (.int .i64 a0_4) ∧ w'.cell? ⟨gb101, 5, none⟩ = some (.int .i64 a0_5) ∧ w'.cell? ⟨gb101, 6, none⟩ = some (.int .i64 a0_6) ∧ w'.cell? ⟨gb101, 7, none⟩ = some (.slice A0_7 l0_7.length c0_7) ∧ w'.cell? ⟨gb101, 8, none⟩ = some (.int .i64 a0_8) ∧ w'.cell? ⟨gb101, 9, none⟩ = some (.int .u32 a0_9) ∧ w'.cell? ⟨gb102, 0, none⟩ = some (.int .i64 a1_0) ∧ w'.cell? ⟨gb102, 1, none⟩ = some (.int .i64 a1_1) ∧ w'.cell? ⟨gb102, 2, none⟩ = some (.string a1_2) ∧ w'.cell? ⟨gb102, 3, none⟩ = some (.int .i64 a1_3) ∧ w'.cell? ⟨gb102, 4, none⟩ = some (.int .i64 a1_4) ∧ w'.cell? ⟨gb102, 5, none⟩ = some (.int .i64 a1_5) ∧ w'.cell? ⟨gb102, 6, none⟩ = some (.int .i64 a1_6) ∧ w'.cell? ⟨gb102, 7, none⟩ = some (.string a1_7) ∧ w'.cell? ⟨gb102, 8, none⟩ = some (.int .i64 a1_8) ∧ w'.cell? ⟨gb102, 9, none⟩ = some (.int .u32 a1_9)) (ds := []) (Hand.bv 70 0x0) (by kernel_rfl) rfl rfl ⟨(blk_cell BK101.out 0).trans rfl, (blk_cell BK101.out 1).trans rfl, (blk_cell BK101.out 2).trans rfl, (blk_cell BK101.out 3).trans rfl, (blk_cell BK101.out 4).trans rfl, (blk_cell BK101.out 5).trans rfl, (blk_cell BK101.out 6).trans rfl, (blk_cell BK101.out 7).trans rfl, (blk_cell BK101.out 8).trans rfl, (blk_cell BK101.out 9).trans rfl, (blk_cell BK102.out 0).trans rfl, (blk_cell BK102.out 1).trans rfl, (blk_cell BK102.out 2).trans rfl, (blk_cell BK102.out 3).trans rfl, (blk_cell BK102.out 4).trans rfl, (blk_cell BK102.out 5).trans rfl, (blk_cell BK102.out 6).trans rfl, (blk_cell BK102.out 7).trans rfl, (blk_cell BK102.out 8).trans rfl, (blk_cell BK102.out 9).trans rfl⟩ (fun hHeld => ?_); refine with_tabW pyxlaw13_same.tab1 pyxlaw13_same.bits1 (fun HT_ HW_ => ?_)
                    generalize w14.drew = w15 at BK101 BK102 HB hHeld ⊢
                    refine pure_ (i := 0) (N := some 5) (v := ?_) (a' := ?_) (Hand.bv 70 0x1) rfl rfl (any_of HT_.out (by kernel_rfl)) (fun _ _ _ h => h) (Or.inl ⟨by rfl, ?_⟩) ?_ ?_
                    rotate_left
                    · intro w'
                      go_simp
                      with_reducible rfl
                    rotate_left
                    · simp only [Act.put, List.setIfInBounds_toArray, List.set_cons_zero, List.set_cons_succ, i64_w, i32_w]
                      rfl
                    refine pure_ (i := 2) (N := some 7) (v := ?_) (a' := ?_) (Hand.bv 70 0x5) rfl rfl (any_of HT_.out (by kernel_rfl)) (fun _ _ _ h => h) (Or.inl ⟨by rfl, ?_⟩) ?_ ?_
                    rotate_left
                    · intro w'
                      go_simp
                      with_reducible rfl
                    rotate_left
                    · simp only [Act.put, List.setIfInBounds_toArray, List.set_cons_zero, List.set_cons_succ, i64_w, i32_w]
                      rfl
                    refine take_ (i := 1) (N := some 6) (v := ?_) (a' := ?_) (Hand.bv 70 0x7) rfl rfl (take_ofW HT_.out HW_.out (by kernel_rfl)) (fun _ _ _ h => h) (Or.inl ⟨by rfl, ?_⟩) hHeld ?_ ?_
                    rotate_left
                    · rintro w' ⟨s0, s1, s2, s3, s4, s5, s6, s7, s8, s9, s10, s11, s12, s13, s14, s15, s16, s17, s18, s19⟩
                      go_simp
                      with_reducible rfl
                    rotate_left
                    · simp only [Act.put, List.setIfInBounds_toArray, List.set_cons_zero, List.set_cons_succ, i64_w, i32_w]
                      rfl
                    refine take_ (i := 3) (N := some 8) (v := ?_) (a' := ?_) (Hand.bv 70 0xf) rfl rfl (take_ofW HT_.out HW_.out (by kernel_rfl)) (fun _ _ _ h => h) (Or.inl ⟨by rfl, ?_⟩) hHeld ?_ ?_
                    rotate_left
                    · rintro w' ⟨s0, s1, s2, s3, s4, s5, s6, s7, s8, s9, s10, s11, s12, s13, s14, s15, s16, s17, s18, s19⟩
                      go_simp
                      with_reducible rfl
                    rotate_left
                    · simp only [Act.put, List.setIfInBounds_toArray, List.set_cons_zero, List.set_cons_succ, i64_w, i32_w]
                      rfl
                    refine pure_ (i := 4) (N := some 9) (v := ?_) (a' := ?_) (Hand.bv 70 0x1f) rfl rfl (any_of HT_.out (by kernel_rfl)) (fun _ _ _ h => h) (Or.inl ⟨by rfl, ?_⟩) ?_ ?_
                    rotate_left
                    · intro w'
                      go_simp
                      with_reducible rfl
                    rotate_left
                    · simp only [Act.put, List.setIfInBounds_toArray, List.set_cons_zero, List.set_cons_succ, i64_w, i32_w]
                      rfl
                    refine pure_ (i := 5) (N := some 10) (v := ?_) (a' := ?_) (Hand.bv 70 0x3f) rfl rfl (any_of HT_.out (by kernel_rfl)) (fun _ _ _ h => h) (Or.inl ⟨by rfl, ?_⟩) ?_ ?_
                    rotate_left
                    · intro w'
                      go_simp
                      with_reducible rfl
                    rotate_left
                    · simp only [Act.put, List.setIfInBounds_toArray, List.set_cons_zero, List.set_cons_succ, i64_w, i32_w]
                      rfl
                    refine pure_ (i := 6) (N := some 11) (v := ?_) (a' := ?_) (Hand.bv 70 0x7f) rfl rfl (any_of HT_.out (by kernel_rfl)) (fun _ _ _ h => h) (Or.inl ⟨by rfl, ?_⟩) ?_ ?_
                    rotate_left
                    · intro w'
                      go_simp
                      with_reducible rfl
                    rotate_left
                    · simp only [Act.put, List.setIfInBounds_toArray, List.set_cons_zero, List.set_cons_succ, i64_w, i32_w]
                      rfl
                    refine pure_ (i := 8) (N := some 13) (v := ?_) (a' := ?_) (Hand.bv 70 0x17f) rfl rfl (any_of HT_.out (by kernel_rfl)) (fun _ _ _ h => h) (Or.inl ⟨by rfl, ?_⟩) ?_ ?_
                    rotate_left
                    · intro w'
                      go_simp
                      with_reducible rfl
                    rotate_left
                    · simp only [Act.put, List.setIfInBounds_toArray, List.set_cons_zero, List.set_cons_succ, i64_w, i32_w]
                      rfl
                    refine take_ (i := 7) (N := some 12) (v := ?_) (a' := ?_) (Hand.bv 70 0x1ff) rfl rfl (take_ofW HT_.out HW_.out (by kernel_rfl)) (fun _ _ _ h => h) (Or.inl ⟨by rfl, ?_⟩) hHeld ?_ ?_
                    rotate_left
                    · rintro w' ⟨s0, s1, s2, s3, s4, s5, s6, s7, s8, s9, s10, s11, s12, s13, s14, s15, s16, s17, s18, s19⟩
                      go_simp
                      with_reducible rfl
                    rotate_left
                    · simp only [Act.put, List.setIfInBounds_toArray, List.set_cons_zero, List.set_cons_succ, i64_w, i32_w]
                      rfl
                    refine take_ (i := 9) (N := some 14) (v := ?_) (a' := ?_) (Hand.bv 70 0x3ff) rfl rfl (take_ofW HT_.out HW_.out (by kernel_rfl)) (fun _ _ _ h => h) (Or.inl ⟨by rfl, ?_⟩) hHeld ?_ ?_
                    rotate_left
                    · rintro w' ⟨s0, s1, s2, s3, s4, s5, s6, s7, s8, s9, s10, s11, s12, s13, s14, s15, s16, s17, s18, s19⟩
                      go_simp
                      with_reducible rfl
                    rotate_left
                    · simp only [Act.put, List.setIfInBounds_toArray, List.set_cons_zero, List.set_cons_succ, i64_w, i32_w]
                      rfl
                    refine pure_ (i := 10) (N := some 15) (v := ?_) (a' := ?_) (Hand.bv 70 0x7ff) rfl rfl (any_of HT_.out (by kernel_rfl)) (fun _ _ _ h => h) (Or.inl ⟨by rfl, ?_⟩) ?_ ?_
                    rotate_left
                    · intro w'
                      go_simp
                      with_reducible rfl
                    rotate_left
                    · simp only [Act.put, List.setIfInBounds_toArray, List.set_cons_zero, List.set_cons_succ, i64_w, i32_w]
                      rfl
                    refine pure_ (i := 11) (N := some 16) (v := ?_) (a' := ?_) (Hand.bv 70 0xfff) rfl rfl (any_of HT_.out (by kernel_rfl)) (fun _ _ _ h => h) (Or.inl ⟨by rfl, ?_⟩) ?_ ?_
                    rotate_left
                    · intro w'
                      go_simp
                      with_reducible rfl
                    rotate_left
                    · simp only [Act.put, List.setIfInBounds_toArray, List.set_cons_zero, List.set_cons_succ, i64_w, i32_w]
                      rfl
                    refine pure_ (i := 12) (N := some 17) (v := ?_) (a' := ?_) (Hand.bv 70 0x1fff) rfl rfl (any_of HT_.out (by kernel_rfl)) (fun _ _ _ h => h) (Or.inl ⟨by rfl, ?_⟩) ?_ ?_
                    rotate_left
                    · intro w'
                      go_simp
                      with_reducible rfl
                    rotate_left
                    · simp only [Act.put, List.setIfInBounds_toArray, List.set_cons_zero, List.set_cons_succ, i64_w, i32_w]
                      rfl
                    refine pure_ (i := 13) (N := some 18) (v := ?_) (a' := ?_) (Hand.bv 70 0x3fff) rfl rfl (any_of HT_.out (by kernel_rfl)) (fun _ _ _ h => h) (Or.inl ⟨by rfl, ?_⟩) ?_ ?_
                    rotate_left
                    · intro w'
                      go_simp
                      with_reducible rfl
                    rotate_left
                    · simp only [Act.put, List.setIfInBounds_toArray, List.set_cons_zero, List.set_cons_succ, i64_w, i32_w]
                      rfl
                    refine pure_ (i := 15) (N := some 20) (v := ?_) (a' := ?_) (Hand.bv 70 0xbfff) rfl rfl (any_of HT_.out (by kernel_rfl)) (fun _ _ _ h => h) (Or.inl ⟨by rfl, ?_⟩) ?_ ?_
                    rotate_left
                    · intro w'
                      go_simp
                      with_reducible rfl
                    rotate_left
                    · simp only [Act.put, List.setIfInBounds_toArray, List.set_cons_zero, List.set_cons_succ, i64_w, i32_w]
                      rfl
                    refine take_ (i := 14) (N := some 19) (v := ?_) (a' := ?_) (Hand.bv 70 0xffff) rfl rfl (take_ofW HT_.out HW_.out (by kernel_rfl)) (fun _ _ _ h => h) (Or.inl ⟨by rfl, ?_⟩) hHeld ?_ ?_
                    rotate_left
                    · rintro w' ⟨s0, s1, s2, s3, s4, s5, s6, s7, s8, s9, s10, s11, s12, s13, s14, s15, s16, s17, s18, s19⟩
                      go_simp
                      with_reducible rfl
                    rotate_left
                    · simp only [Act.put, List.setIfInBounds_toArray, List.set_cons_zero, List.set_cons_succ, i64_w, i32_w]
                      rfl
                    refine take_ (i := 16) (N := some 21) (v := ?_) (a' := ?_) (Hand.bv 70 0x1ffff) rfl rfl (take_ofW HT_.out HW_.out (by kernel_rfl)) (fun _ _ _ h => h) (Or.inl ⟨by rfl, ?_⟩) hHeld ?_ ?_
                    rotate_left
                    · rintro w' ⟨s0, s1, s2, s3, s4, s5, s6, s7, s8, s9, s10, s11, s12, s13, s14, s15, s16, s17, s18, s19⟩
                      go_simp
                      with_reducible rfl
                    rotate_left
                    · simp only [Act.put, List.setIfInBounds_toArray, List.set_cons_zero, List.set_cons_succ, i64_w, i32_w]
                      rfl
                    refine pure_ (i := 17) (N := some 22) (v := ?_) (a' := ?_) (Hand.bv 70 0x3ffff) rfl rfl (any_of HT_.out (by kernel_rfl)) (fun _ _ _ h => h) (Or.inl ⟨by rfl, ?_⟩) ?_ ?_
                    rotate_left
                    · intro w'
                      go_simp
                      with_reducible rfl
                    rotate_left
                    · simp only [Act.put, List.setIfInBounds_toArray, List.set_cons_zero, List.set_cons_succ, i64_w, i32_w]
                      rfl
                    refine pure_ (i := 18) (N := some 23) (v := ?_) (a' := ?_) (Hand.bv 70 0x7ffff) rfl rfl (any_of HT_.out (by kernel_rfl)) (fun _ _ _ h => h) (Or.inl ⟨by rfl, ?_⟩) ?_ ?_
                    rotate_left
                    · intro w'
                      go_simp
                      with_reducible rfl
                    rotate_left
                    · simp only [Act.put, List.setIfInBounds_toArray, List.set_cons_zero, List.set_cons_succ, i64_w, i32_w]
                      rfl
                    refine pure_ (i := 19) (N := some 24) (v := ?_) (a' := ?_) (Hand.bv 70 0xfffff) rfl rfl (any_of HT_.out (by kernel_rfl)) (fun _ _ _ h => h) (Or.inl ⟨by rfl, ?_⟩) ?_ ?_
                    rotate_left
                    · intro w'
                      go_simp
                      with_reducible rfl
                    rotate_left
                    · simp only [Act.put, List.setIfInBounds_toArray, List.set_cons_zero, List.set_cons_succ, i64_w, i32_w]
                      rfl
                    refine pure_ (i := 20) (N := some 25) (v := ?_) (a' := ?_) (Hand.bv 70 0x1fffff) rfl rfl (any_of HT_.out (by kernel_rfl)) (fun _ _ _ h => h) (Or.inl ⟨by rfl, ?_⟩) ?_ ?_
                    rotate_left
                    · intro w'
                      go_simp
                      with_reducible rfl
                    rotate_left
                    · simp only [Act.put, List.setIfInBounds_toArray, List.set_cons_zero, List.set_cons_succ, i64_w, i32_w]
                      rfl
                    refine pure_ (i := 22) (N := some 27) (v := ?_) (a' := ?_) (Hand.bv 70 0x5fffff) rfl rfl (any_of HT_.out (by kernel_rfl)) (fun _ _ _ h => h) (Or.inl ⟨by rfl, ?_⟩) ?_ ?_
                    rotate_left
                    · intro w'
                      go_simp
                      with_reducible rfl
                    rotate_left
                    · simp only [Act.put, List.setIfInBounds_toArray, List.set_cons_zero, List.set_cons_succ, i64_w, i32_w]
                      rfl
                    refine take_ (i := 21) (N := some 26) (v := ?_) (a' := ?_) (Hand.bv 70 0x7fffff) rfl rfl (take_ofW HT_.out HW_.out (by kernel_rfl)) (fun _ _ _ h => h) (Or.inl ⟨by rfl, ?_⟩) hHeld ?_ ?_
                    rotate_left
                    · rintro w' ⟨s0, s1, s2, s3, s4, s5, s6, s7, s8, s9, s10, s11, s12, s13, s14, s15, s16, s17, s18, s19⟩
                      go_simp
                      with_reducible rfl
                    rotate_left
                    · simp only [Act.put, List.setIfInBounds_toArray, List.set_cons_zero, List.set_cons_succ, i64_w, i32_w]
                      rfl
                    refine take_ (i := 23) (N := some 28) (v := ?_) (a' := ?_) (Hand.bv 70 0xffffff) rfl rfl (take_ofW HT_.out HW_.out (by kernel_rfl)) (fun _ _ _ h => h) (Or.inl ⟨by rfl, ?_⟩) hHeld ?_ ?_
                    rotate_left
                    · rintro w' ⟨s0, s1, s2, s3, s4, s5, s6, s7, s8, s9, s10, s11, s12, s13, s14, s15, s16, s17, s18, s19⟩
                      go_simp
                      with_reducible rfl
                    rotate_left
                    · simp only [Act.put, List.setIfInBounds_toArray, List.set_cons_zero, List.set_cons_succ, i64_w, i32_w]
                      rfl
                    refine pure_ (i := 24) (N := some 29) (v := ?_) (a' := ?_) (Hand.bv 70 0x1ffffff) rfl rfl (any_of HT_.out (by kernel_rfl)) (fun _ _ _ h => h) (Or.inl ⟨by rfl, ?_⟩) ?_ ?_
                    rotate_left
                    · intro w'
                      go_simp
                      with_reducible rfl
                    rotate_left
                    · simp only [Act.put, List.setIfInBounds_toArray, List.set_cons_zero, List.set_cons_succ, i64_w, i32_w]
                      rfl
                    refine pure_ (i := 25) (N := some 30) (v := ?_) (a' := ?_) (Hand.bv 70 0x3ffffff) rfl rfl (any_of HT_.out (by kernel_rfl)) (fun _ _ _ h => h) (Or.inl ⟨by rfl, ?_⟩) ?_ ?_
                    rotate_left
                    · intro w'
                      go_simp
                      with_reducible rfl
                    rotate_left
                    · simp only [Act.put, List.setIfInBounds_toArray, List.set_cons_zero, List.set_cons_succ, i64_w, i32_w]
                      rfl
                    refine pure_ (i := 26) (N := some 31) (v := ?_) (a' := ?_) (Hand.bv 70 0x7ffffff) rfl rfl (any_of HT_.out (by kernel_rfl)) (fun _ _ _ h => h) (Or.inl ⟨by rfl, ?_⟩) ?_ ?_
                    rotate_left
                    · intro w'
                      go_simp
                      with_reducible rfl
                    rotate_left
                    · simp only [Act.put, List.setIfInBounds_toArray, List.set_cons_zero, List.set_cons_succ, i64_w, i32_w]
                      rfl
                    refine pure_ (i := 27) (N := some 32) (v := ?_) (a' := ?_) (Hand.bv 70 0xfffffff) rfl rfl (any_of HT_.out (by kernel_rfl)) (fun _ _ _ h => h) (Or.inl ⟨by rfl, ?_⟩) ?_ ?_
                    rotate_left
                    · intro w'
                      go_simp
                      with_reducible rfl
                    rotate_left
                    · simp only [Act.put, List.setIfInBounds_toArray, List.set_cons_zero, List.set_cons_succ, i64_w, i32_w]
                      rfl
                    refine pure_ (i := 29) (N := some 34) (v := ?_) (a' := ?_) (Hand.bv 70 0x2fffffff) rfl rfl (any_of HT_.out (by kernel_rfl)) (fun _ _ _ h => h) (Or.inl ⟨by rfl, ?_⟩) ?_ ?_
                    rotate_left
                    · intro w'
                      go_simp
                      with_reducible rfl
                    rotate_left
                    · simp only [Act.put, List.setIfInBounds_toArray, List.set_cons_zero, List.set_cons_succ, i64_w, i32_w]
                      rfl
                    refine take_ (i := 28) (N := some 33) (v := ?_) (a' := ?_) (Hand.bv 70 0x3fffffff) rfl rfl (take_ofW HT_.out HW_.out (by kernel_rfl)) (fun _ _ _ h => h) (Or.inl ⟨by rfl, ?_⟩) hHeld ?_ ?_
                    rotate_left
                    · rintro w' ⟨s0, s1, s2, s3, s4, s5, s6, s7, s8, s9, s10, s11, s12, s13, s14, s15, s16, s17, s18, s19⟩
                      go_simp
                      with_reducible rfl
                    rotate_left
                    · simp only [Act.put, List.setIfInBounds_toArray, List.set_cons_zero, List.set_cons_succ, i64_w, i32_w]
                      rfl
                    refine take_ (i := 30) (N := some 35) (v := ?_) (a' := ?_) (Hand.bv 70 0x7fffffff) rfl rfl (take_ofW HT_.out HW_.out (by kernel_rfl)) (fun _ _ _ h => h) (Or.inl ⟨by rfl, ?_⟩) hHeld ?_ ?_
                    rotate_left
                    · rintro w' ⟨s0, s1, s2, s3, s4, s5, s6, s7, s8, s9, s10, s11, s12, s13, s14, s15, s16, s17, s18, s19⟩
                      go_simp
                      with_reducible rfl
                    rotate_left
                    · simp only [Act.put, List.setIfInBounds_toArray, List.set_cons_zero, List.set_cons_succ, i64_w, i32_w]
                      rfl
                    refine pure_ (i := 31) (N := some 36) (v := ?_) (a' := ?_) (Hand.bv 70 0xffffffff) rfl rfl (any_of HT_.out (by kernel_rfl)) (fun _ _ _ h => h) (Or.inl ⟨by rfl, ?_⟩) ?_ ?_
                    rotate_left
                    · intro w'
                      go_simp
                      with_reducible rfl
                    rotate_left
                    · simp only [Act.put, List.setIfInBounds_toArray, List.set_cons_zero, List.set_cons_succ, i64_w, i32_w]
                      rfl
                    refine pure_ (i := 32) (N := some 37) (v := ?_) (a' := ?_) (Hand.bv 70 0x1ffffffff) rfl rfl (any_of HT_.out (by kernel_rfl)) (fun _ _ _ h => h) (Or.inl ⟨by rfl, ?_⟩) ?_ ?_
                    rotate_left
                    · intro w'
                      go_simp
                      with_reducible rfl
                    rotate_left
                    · simp only [Act.put, List.setIfInBounds_toArray, List.set_cons_zero, List.set_cons_succ, i64_w, i32_w]
                      rfl
                    refine pure_ (i := 33) (N := some 38) (v := ?_) (a' := ?_) (Hand.bv 70 0x3ffffffff) rfl rfl (any_of HT_.out (by kernel_rfl)) (fun _ _ _ h => h) (Or.inl ⟨by rfl, ?_⟩) ?_ ?_
                    rotate_left
                    · intro w'
                      go_simp
                      with_reducible rfl
                    rotate_left
                    · simp only [Act.put, List.setIfInBounds_toArray, List.set_cons_zero, List.set_cons_succ, i64_w, i32_w]
                      rfl
                    refine pure_ (i := 34) (N := some 39) (v := ?_) (a' := ?_) (Hand.bv 70 0x7ffffffff) rfl rfl (any_of HT_.out (by kernel_rfl)) (fun _ _ _ h => h) (Or.inl ⟨by rfl, ?_⟩) ?_ ?_
                    rotate_left
                    · intro w'
                      go_simp
                      with_reducible rfl
                    rotate_left
                    · simp only [Act.put, List.setIfInBounds_toArray, List.set_cons_zero, List.set_cons_succ, i64_w, i32_w]
                      rfl
                    refine pure_ (i := 36) (N := some 41) (v := ?_) (a' := ?_) (Hand.bv 70 0x17ffffffff) rfl rfl (any_of HT_.out (by kernel_rfl)) (fun _ _ _ h => h) (Or.inl ⟨by rfl, ?_⟩) ?_ ?_
                    rotate_left
                    · intro w'
                      go_simp
                      with_reducible rfl
                    rotate_left
                    · simp only [Act.put, List.setIfInBounds_toArray, List.set_cons_zero, List.set_cons_succ, i64_w, i32_w]
                      rfl
                    refine take_ (i := 35) (N := some 40) (v := ?_) (a' := ?_) (Hand.bv 70 0x1fffffffff) rfl rfl (take_ofW HT_.out HW_.out (by kernel_rfl)) (fun _ _ _ h => h) (Or.inl ⟨by rfl, ?_⟩) hHeld ?_ ?_
                    rotate_left
                    · rintro w' ⟨s0, s1, s2, s3, s4, s5, s6, s7, s8, s9, s10, s11, s12, s13, s14, s15, s16, s17, s18, s19⟩
                      go_simp
                      with_reducible rfl
                    rotate_left
                    · simp only [Act.put, List.setIfInBounds_toArray, List.set_cons_zero, List.set_cons_succ, i64_w, i32_w]
                      rfl
                    refine take_ (i := 37) (N := some 42) (v := ?_) (a' := ?_) (Hand.bv 70 0x3fffffffff) rfl rfl (take_ofW HT_.out HW_.out (by kernel_rfl)) (fun _ _ _ h => h) (Or.inl ⟨by rfl, ?_⟩) hHeld ?_ ?_
                    rotate_left
                    · rintro w' ⟨s0, s1, s2, s3, s4, s5, s6, s7, s8, s9, s10, s11, s12, s13, s14, s15, s16, s17, s18, s19⟩
                      go_simp
                      with_reducible rfl
                    rotate_left
                    · simp only [Act.put, List.setIfInBounds_toArray, List.set_cons_zero, List.set_cons_succ, i64_w, i32_w]
                      rfl
                    refine pure_ (i := 38) (N := some 43) (v := ?_) (a' := ?_) (Hand.bv 70 0x7fffffffff) rfl rfl (any_of HT_.out (by kernel_rfl)) (fun _ _ _ h => h) (Or.inl ⟨by rfl, ?_⟩) ?_ ?_
                    rotate_left
                    · intro w'
                      go_simp
                      with_reducible rfl
                    rotate_left
                    · simp only [Act.put, List.setIfInBounds_toArray, List.set_cons_zero, List.set_cons_succ, i64_w, i32_w]
                      rfl
                    refine pure_ (i := 39) (N := some 44) (v := ?_) (a' := ?_) (Hand.bv 70 0xffffffffff) rfl rfl (any_of HT_.out (by kernel_rfl)) (fun _ _ _ h => h) (Or.inl ⟨by rfl, ?_⟩) ?_ ?_
                    rotate_left
                    · intro w'
                      go_simp
                      with_reducible rfl
                    rotate_left
                    · simp only [Act.put, List.setIfInBounds_toArray, List.set_cons_zero, List.set_cons_succ, i64_w, i32_w]
                      rfl
                    refine pure_ (i := 40) (N := some 45) (v := ?_) (a' := ?_) (Hand.bv 70 0x1ffffffffff) rfl rfl (any_of HT_.out (by kernel_rfl)) (fun _ _ _ h => h) (Or.inl ⟨by rfl, ?_⟩) ?_ ?_
                    rotate_left
                    · intro w'
                      go_simp
                      with_reducible rfl
                    rotate_left
                    · simp only [Act.put, List.setIfInBounds_toArray, List.set_cons_zero, List.set_cons_succ, i64_w, i32_w]
                      rfl
                    refine pure_ (i := 41) (N := some 46) (v := ?_) (a' := ?_) (Hand.bv 70 0x3ffffffffff) rfl rfl (any_of HT_.out (by kernel_rfl)) (fun _ _ _ h => h) (Or.inl ⟨by rfl, ?_⟩) ?_ ?_
                    rotate_left
                    · intro w'
                      go_simp
                      with_reducible rfl
                    rotate_left
                    · simp only [Act.put, List.setIfInBounds_toArray, List.set_cons_zero, List.set_cons_succ, i64_w, i32_w]
                      rfl
                    refine pure_ (i := 43) (N := some 48) (v := ?_) (a' := ?_) (Hand.bv 70 0xbffffffffff) rfl rfl (any_of HT_.out (by kernel_rfl)) (fun _ _ _ h => h) (Or.inl ⟨by rfl, ?_⟩) ?_ ?_
                    rotate_left
                    · intro w'
                      go_simp
                      with_reducible rfl
                    rotate_left
                    · simp only [Act.put, List.setIfInBounds_toArray, List.set_cons_zero, List.set_cons_succ, i64_w, i32_w]
                      rfl
                    refine take_ (i := 42) (N := some 47) (v := ?_) (a' := ?_) (Hand.bv 70 0xfffffffffff) rfl rfl (take_ofW HT_.out HW_.out (by kernel_rfl)) (fun _ _ _ h => h) (Or.inl ⟨by rfl, ?_⟩) hHeld ?_ ?_
                    rotate_left
                    · rintro w' ⟨s0, s1, s2, s3, s4, s5, s6, s7, s8, s9, s10, s11, s12, s13, s14, s15, s16, s17, s18, s19⟩
                      go_simp
                      with_reducible rfl
                    rotate_left
                    · simp only [Act.put, List.setIfInBounds_toArray, List.set_cons_zero, List.set_cons_succ, i64_w, i32_w]
                      rfl
                    refine take_ (i := 44) (N := some 49) (v := ?_) (a' := ?_) (Hand.bv 70 0x1fffffffffff) rfl rfl (take_ofW HT_.out HW_.out (by kernel_rfl)) (fun _ _ _ h => h) (Or.inl ⟨by rfl, ?_⟩) hHeld ?_ ?_
                    rotate_left
                    · rintro w' ⟨s0, s1, s2, s3, s4, s5, s6, s7, s8, s9, s10, s11, s12, s13, s14, s15, s16, s17, s18, s19⟩
                      go_simp
                      with_reducible rfl
                    rotate_left
                    · simp only [Act.put, List.setIfInBounds_toArray, List.set_cons_zero, List.set_cons_succ, i64_w, i32_w]
                      rfl
                    refine pure_ (i := 45) (N := some 50) (v := ?_) (a' := ?_) (Hand.bv 70 0x3fffffffffff) rfl rfl (any_of HT_.out (by kernel_rfl)) (fun _ _ _ h => h) (Or.inl ⟨by rfl, ?_⟩) ?_ ?_
                    rotate_left
                    · intro w'
                      go_simp
                      with_reducible rfl
                    rotate_left
                    · simp only [Act.put, List.setIfInBounds_toArray, List.set_cons_zero, List.set_cons_succ, i64_w, i32_w]
                      rfl
                    refine pure_ (i := 46) (N := some 51) (v := ?_) (a' := ?_) (Hand.bv 70 0x7fffffffffff) rfl rfl (any_of HT_.out (by kernel_rfl)) (fun _ _ _ h => h) (Or.inl ⟨by rfl, ?_⟩) ?_ ?_
                    rotate_left
                    · intro w'
                      go_simp
                      with_reducible rfl
                    rotate_left
                    · simp only [Act.put, List.setIfInBounds_toArray, List.set_cons_zero, List.set_cons_succ, i64_w, i32_w]
                      rfl
                    refine pure_ (i := 47) (N := some 52) (v := ?_) (a' := ?_) (Hand.bv 70 0xffffffffffff) rfl rfl (any_of HT_.out (by kernel_rfl)) (fun _ _ _ h => h) (Or.inl ⟨by rfl, ?_⟩) ?_ ?_
                    rotate_left
                    · intro w'
                      go_simp
                      with_reducible rfl
                    rotate_left
                    · simp only [Act.put, List.setIfInBounds_toArray, List.set_cons_zero, List.set_cons_succ, i64_w, i32_w]
                      rfl
                    refine pure_ (i := 48) (N := some 53) (v := ?_) (a' := ?_) (Hand.bv 70 0x1ffffffffffff) rfl rfl (any_of HT_.out (by kernel_rfl)) (fun _ _ _ h => h) (Or.inl ⟨by rfl, ?_⟩) ?_ ?_
                    rotate_left
                    · intro w'
                      go_simp
                      with_reducible rfl
                    rotate_left
                    · simp only [Act.put, List.setIfInBounds_toArray, List.set_cons_zero, List.set_cons_succ, i64_w, i32_w]
                      rfl
                    refine pure_ (i := 51) (N := some 56) (v := ?_) (a' := ?_) (Hand.bv 70 0x9ffffffffffff) rfl rfl (any_of HT_.out (by kernel_rfl)) (fun _ _ _ h => h) (Or.inl ⟨by rfl, ?_⟩) ?_ ?_
                    rotate_left
                    · intro w'
                      go_simp
                      with_reducible rfl
                    rotate_left
                    · simp only [Act.put, List.setIfInBounds_toArray, List.set_cons_zero, List.set_cons_succ, i64_w, i32_w]
                      rfl
                    refine take_ (i := 49) (N := some 54) (v := ?_) (a' := ?_) (Hand.bv 70 0xbffffffffffff) rfl rfl (take_ofW HT_.out HW_.out (by kernel_rfl)) (fun _ _ _ h => h) (Or.inl ⟨by rfl, ?_⟩) hHeld ?_ ?_
                    rotate_left
                    · rintro w' ⟨s0, s1, s2, s3, s4, s5, s6, s7, s8, s9, s10, s11, s12, s13, s14, s15, s16, s17, s18, s19⟩
                      go_simp
                      with_reducible rfl
                    rotate_left
                    · simp only [Act.put, List.setIfInBounds_toArray, List.set_cons_zero, List.set_cons_succ, i64_w, i32_w]
                      rfl
                    refine take_ (i := 52) (N := some 57) (v := ?_) (a' := ?_) (Hand.bv 70 0x1bffffffffffff) rfl rfl (take_ofW HT_.out HW_.out (by kernel_rfl)) (fun _ _ _ h => h) (Or.inl ⟨by rfl, ?_⟩) hHeld ?_ ?_
                    rotate_left
                    · rintro w' ⟨s0, s1, s2, s3, s4, s5, s6, s7, s8, s9, s10, s11, s12, s13, s14, s15, s16, s17, s18, s19⟩
                      go_simp
                      with_reducible rfl
                    rotate_left
                    · simp only [Act.put, List.setIfInBounds_toArray, List.set_cons_zero, List.set_cons_succ, i64_w, i32_w]
                      rfl
                    refine one_ (i := 50) (N := some 55) (Hand.bv 70 0x1fffffffffffff) rfl rfl (one_of HT_.out (by kernel_rfl)) (by decide) (fun K hK => ?_)
                    refine goes_ Tryd.func21 (by kernel_rfl) rfl #[.slice A0_7 l0_7.length c0_7] (by rfl) rfl rfl (by (try simp only [List.map_toArray, List.map_cons, List.map_nil]); first | done | rfl | (simp only [List.length_drop, List.length_take]; rfl)) ?_
                    with_reducible refine (pyxref09_Text.calls _ _ l0_7 t103 _ ?side1 ?side2 ?side3 A10.out).mono ?_
                    (case side1 => first | exact HLd | (exact LaidOk.below HLd (by repeat (first | (with_reducible first | exact HB.out | apply below_alloc | apply pw_below_drewN | apply below_drew1) | exact HB.out))) | (repeat (first | exact HLd | apply LaidOk.drewN | apply LaidOk.drew | apply LaidOk.alloc)))
                    (case side2 => repeat (first | exact (Kd.C_below HR0_7.out HB.out) | (with_reducible refine Kd.C_alloc ?_ _) | (with_reducible refine Kd.C_drewN ?_ _) | (with_reducible refine Kd.C_drew ?_)))
                    (case side3 => exact HC0_7.out)
                    rintro e w16 ⟨rfl, hb⟩
                    refine ⟨_, rfl, ?_⟩
                    have n0_ := Aside0.mk (blk_below (g := gb101) (o := .cells #[.int .i64 a0_0, .int .i64 a0_1, .string a0_2, .int .i64 a0_3, .int .i64 a0_4, .int .i64 a0_5, .int .i64 a0_6, .slice A0_7 l0_7.length c0_7, .int .i64 a0_8, .int .u32 a0_9] 37 (0, 0)) (by (with_reducible repeat (first | refine blk_drewN ?_ _ | refine blk_drew ?_ | refine blk_alloc ?_ _)); exact BK101.out) hb)
                    have n1_ := Aside0.mk (blk_below (g := gb102) (o := .cells #[.int .i64 a1_0, .int .i64 a1_1, .string a1_2, .int .i64 a1_3, .int .i64 a1_4, .int .i64 a1_5, .int .i64 a1_6, .string a1_7, .int .i64 a1_8, .int .u32 a1_9] 42 (0, 0)) (by (with_reducible repeat (first | refine blk_drewN ?_ _ | refine blk_drew ?_ | refine blk_alloc ?_ _)); exact BK102.out) hb)
                    have n2_ := Aside0.mk (below_step (by repeat (first | (with_reducible first | exact HB.out | apply below_alloc | apply pw_below_drewN | apply below_drew1 | refine below_set ?_ GE101.out | refine below_set ?_ GE102.out) | exact HB.out)) hb)
                    clear BK101
                    clear BK102
                    clear HB
                    have BK101 := n0_
                    have BK102 := n1_
                    have HB := n2_
                    clear n0_ n1_ n2_
                    (try clear hb)
                    (try clear hb2)
                    (try clear hk)
                    (try clear hi)
                    refine hK.out _ _ ⟨(blk_cell BK101.out 0).trans rfl, (blk_cell BK101.out 1).trans rfl, (blk_cell BK101.out 2).trans rfl, (blk_cell BK101.out 3).trans rfl, (blk_cell BK101.out 4).trans rfl, (blk_cell BK101.out 5).trans rfl, (blk_cell BK101.out 6).trans rfl, (blk_cell BK101.out 7).trans rfl, (blk_cell BK101.out 8).trans rfl, (blk_cell BK101.out 9).trans rfl, (blk_cell BK102.out 0).trans rfl, (blk_cell BK102.out 1).trans rfl, (blk_cell BK102.out 2).trans rfl, (blk_cell BK102.out 3).trans rfl, (blk_cell BK102.out 4).trans rfl, (blk_cell BK102.out 5).trans rfl, (blk_cell BK102.out 6).trans rfl, (blk_cell BK102.out 7).trans rfl, (blk_cell BK102.out 8).trans rfl, (blk_cell BK102.out 9).trans rfl⟩ (fun hHeld => ?_)
                    clear hK K
                    refine norm_ (a' := ?_) ?_ ?_
                    rotate_left
                    · show Act.put _ (some 55) _ = _
                      simp only [Act.put, List.setIfInBounds_toArray, List.set_cons_zero, List.set_cons_succ, i64_w, i32_w]
                      rfl
                    refine pure_ (i := 53) (N := some 58) (v := ?_) (a' := ?_) (Hand.bv 70 0x3fffffffffffff) rfl rfl (any_of HT_.out (by kernel_rfl)) (fun _ _ _ h => h) (Or.inl ⟨by rfl, ?_⟩) ?_ ?_
                    rotate_left
                    · intro w'
                      go_simp
                      with_reducible rfl
                    rotate_left
                    · simp only [Act.put, List.setIfInBounds_toArray, List.set_cons_zero, List.set_cons_succ, i64_w, i32_w]
                      rfl
                    refine pure_ (i := 54) (N := some 59) (v := ?_) (a' := ?_) (Hand.bv 70 0x7fffffffffffff) rfl rfl (any_of HT_.out (by kernel_rfl)) (fun _ _ _ h => h) (Or.inl ⟨by rfl, ?_⟩) ?_ ?_
                    rotate_left
                    · intro w'
                      go_simp
                      with_reducible rfl
                    rotate_left
                    · simp only [Act.put, List.setIfInBounds_toArray, List.set_cons_zero, List.set_cons_succ, i64_w, i32_w]
                      rfl
                    refine pure_ (i := 55) (N := some 60) (v := ?_) (a' := ?_) (Hand.bv 70 0xffffffffffffff) rfl rfl (any_of HT_.out (by kernel_rfl)) (fun _ _ _ h => h) (Or.inl ⟨by rfl, ?_⟩) ?_ ?_
                    rotate_left
                    · intro w'
                      go_simp
                      with_reducible rfl
                    rotate_left
                    · simp only [Act.put, List.setIfInBounds_toArray, List.set_cons_zero, List.set_cons_succ, i64_w, i32_w]
                      rfl
                    refine pure_ (i := 56) (N := some 61) (v := ?_) (a' := ?_) (Hand.bv 70 0x1ffffffffffffff) rfl rfl (any_of HT_.out (by kernel_rfl)) (fun _ _ _ h => h) (Or.inl ⟨by rfl, ?_⟩) ?_ ?_
                    rotate_left
                    · intro w'
                      go_simp
                      with_reducible rfl
                    rotate_left
                    · simp only [Act.put, List.setIfInBounds_toArray, List.set_cons_zero, List.set_cons_succ, i64_w, i32_w]
                      rfl
                    refine pure_ (i := 58) (N := some 63) (v := ?_) (a' := ?_) (Hand.bv 70 0x5ffffffffffffff) rfl rfl (any_of HT_.out (by kernel_rfl)) (fun _ _ _ h => h) (Or.inl ⟨by rfl, ?_⟩) ?_ ?_
                    rotate_left
                    · intro w'
                      go_simp
                      with_reducible rfl
                    rotate_left
                    · simp only [Act.put, List.setIfInBounds_toArray, List.set_cons_zero, List.set_cons_succ, i64_w, i32_w]
                      rfl
                    refine take_ (i := 57) (N := some 62) (v := ?_) (a' := ?_) (Hand.bv 70 0x7ffffffffffffff) rfl rfl (take_ofW HT_.out HW_.out (by kernel_rfl)) (fun _ _ _ h => h) (Or.inl ⟨by rfl, ?_⟩) hHeld ?_ ?_
                    rotate_left
                    · rintro w' ⟨s0, s1, s2, s3, s4, s5, s6, s7, s8, s9, s10, s11, s12, s13, s14, s15, s16, s17, s18, s19⟩
                      go_simp
                      with_reducible rfl
                    rotate_left
                    · simp only [Act.put, List.setIfInBounds_toArray, List.set_cons_zero, List.set_cons_succ, i64_w, i32_w]
                      rfl
                    refine take_ (i := 59) (N := some 64) (v := ?_) (a' := ?_) (Hand.bv 70 0xfffffffffffffff) rfl rfl (take_ofW HT_.out HW_.out (by kernel_rfl)) (fun _ _ _ h => h) (Or.inl ⟨by rfl, ?_⟩) hHeld ?_ ?_
                    rotate_left
                    · rintro w' ⟨s0, s1, s2, s3, s4, s5, s6, s7, s8, s9, s10, s11, s12, s13, s14, s15, s16, s17, s18, s19⟩
                      go_simp
                      with_reducible rfl
                    rotate_left
                    · simp only [Act.put, List.setIfInBounds_toArray, List.set_cons_zero, List.set_cons_succ, i64_w, i32_w]
                      rfl
                    refine pure_ (i := 60) (N := some 65) (v := ?_) (a' := ?_) (Hand.bv 70 0x1fffffffffffffff) rfl rfl (any_of HT_.out (by kernel_rfl)) (fun _ _ _ h => h) (Or.inl ⟨by rfl, ?_⟩) ?_ ?_
                    rotate_left
                    · intro w'
                      go_simp
                      with_reducible rfl
                    rotate_left
                    · simp only [Act.put, List.setIfInBounds_toArray, List.set_cons_zero, List.set_cons_succ, i64_w, i32_w]
                      rfl
                    refine pure_ (i := 61) (N := some 66) (v := ?_) (a' := ?_) (Hand.bv 70 0x3fffffffffffffff) rfl rfl (any_of HT_.out (by kernel_rfl)) (fun _ _ _ h => h) (Or.inl ⟨by rfl, ?_⟩) ?_ ?_
                    rotate_left
                    · intro w'
                      go_simp
                      with_reducible rfl
                    rotate_left
                    · simp only [Act.put, List.setIfInBounds_toArray, List.set_cons_zero, List.set_cons_succ, i64_w, i32_w]
                      rfl
                    refine pure_ (i := 62) (N := some 67) (v := ?_) (a' := ?_) (Hand.bv 70 0x7fffffffffffffff) rfl rfl (any_of HT_.out (by kernel_rfl)) (fun _ _ _ h => h) (Or.inl ⟨by rfl, ?_⟩) ?_ ?_
                    rotate_left
                    · intro w'
                      go_simp
                      with_reducible rfl
                    rotate_left
                    · simp only [Act.put, List.setIfInBounds_toArray, List.set_cons_zero, List.set_cons_succ, i64_w, i32_w]
                      rfl
                    refine pure_ (i := 63) (N := some 68) (v := ?_) (a' := ?_) (Hand.bv 70 0xffffffffffffffff) rfl rfl (any_of HT_.out (by kernel_rfl)) (fun _ _ _ h => h) (Or.inl ⟨by rfl, ?_⟩) ?_ ?_
                    rotate_left
                    · intro w'
                      go_simp
                      with_reducible rfl
                    rotate_left
                    · simp only [Act.put, List.setIfInBounds_toArray, List.set_cons_zero, List.set_cons_succ, i64_w, i32_w]
                      rfl
                    refine pure_ (i := 65) (N := some 70) (v := ?_) (a' := ?_) (Hand.bv 70 0x2ffffffffffffffff) rfl rfl (any_of HT_.out (by kernel_rfl)) (fun _ _ _ h => h) (Or.inl ⟨by rfl, ?_⟩) ?_ ?_
                    rotate_left
                    · intro w'
                      go_simp
                      with_reducible rfl
                    rotate_left
                    · simp only [Act.put, List.setIfInBounds_toArray, List.set_cons_zero, List.set_cons_succ, i64_w, i32_w]
                      rfl
                    refine take_ (i := 64) (N := some 69) (v := ?_) (a' := ?_) (Hand.bv 70 0x3ffffffffffffffff) rfl rfl (take_ofW HT_.out HW_.out (by kernel_rfl)) (fun _ _ _ h => h) (Or.inl ⟨by rfl, ?_⟩) hHeld ?_ ?_
                    rotate_left
                    · rintro w' ⟨s0, s1, s2, s3, s4, s5, s6, s7, s8, s9, s10, s11, s12, s13, s14, s15, s16, s17, s18, s19⟩
                      go_simp
                      with_reducible rfl
                    rotate_left
                    · simp only [Act.put, List.setIfInBounds_toArray, List.set_cons_zero, List.set_cons_succ, i64_w, i32_w]
                      rfl
                    refine take_ (i := 66) (N := some 71) (v := ?_) (a' := ?_) (Hand.bv 70 0x7ffffffffffffffff) rfl rfl (take_ofW HT_.out HW_.out (by kernel_rfl)) (fun _ _ _ h => h) (Or.inl ⟨by rfl, ?_⟩) hHeld ?_ ?_
                    rotate_left
                    · rintro w' ⟨s0, s1, s2, s3, s4, s5, s6, s7, s8, s9, s10, s11, s12, s13, s14, s15, s16, s17, s18, s19⟩
                      go_simp
                      with_reducible rfl
                    rotate_left
                    · simp only [Act.put, List.setIfInBounds_toArray, List.set_cons_zero, List.set_cons_succ, i64_w, i32_w]
                      rfl
                    refine pure_ (i := 67) (N := some 72) (v := ?_) (a' := ?_) (Hand.bv 70 0xfffffffffffffffff) rfl rfl (any_of HT_.out (by kernel_rfl)) (fun _ _ _ h => h) (Or.inl ⟨by rfl, ?_⟩) ?_ ?_
                    rotate_left
                    · intro w'
                      go_simp
                      with_reducible rfl
                    rotate_left
                    · simp only [Act.put, List.setIfInBounds_toArray, List.set_cons_zero, List.set_cons_succ, i64_w, i32_w]
                      rfl
                    refine pure_ (i := 68) (N := some 73) (v := ?_) (a' := ?_) (Hand.bv 70 0x1fffffffffffffffff) rfl rfl (any_of HT_.out (by kernel_rfl)) (fun _ _ _ h => h) (Or.inl ⟨by rfl, ?_⟩) ?_ ?_
                    rotate_left
                    · intro w'
                      go_simp
                      with_reducible rfl
                    rotate_left
                    · simp only [Act.put, List.setIfInBounds_toArray, List.set_cons_zero, List.set_cons_succ, i64_w, i32_w]
                      rfl
                    refine pure_ (i := 69) (N := some 4) (v := ?_) (a' := ?_) (Hand.bv 70 0x3fffffffffffffffff) rfl rfl (any_of HT_.out (by kernel_rfl)) (fun _ _ _ h => h) (Or.inl ⟨by rfl, ?_⟩) ?_ ?_
                    rotate_left
                    · intro w'
                      go_simp
                      with_reducible rfl
                    rotate_left
                    · simp only [Act.put, List.setIfInBounds_toArray, List.set_cons_zero, List.set_cons_succ, i64_w, i32_w]
                      rfl
                    refine done_ (done_of HT_.out (by kernel_rfl)) ?_
                    try go_wp2
                    go_ret
                    exact ⟨by first | rfl | (simp [errW_none, errW_some] <;> rfl) | (simp [*, errW_none, errW_some] <;> rfl), by repeat (first | (with_reducible first | exact HB.out | apply below_alloc | apply pw_below_drewN | apply below_drew1 | refine below_set ?_ GE101.out | refine below_set ?_ GE102.out) | exact HB.out)⟩
                  · rw [if_neg c12] at H
                    have c12b0 : (a0_8 == a1_8) = false := beq_eq_false_iff_ne.mpr c12
                    have c12b1 : (a0_8 != a1_8) = true := bne_iff_ne.mpr c12
                    exact absurd H (by simp)
                · rw [if_neg c11] at H
                  have c11b0 : (t103.toList == a1_7.toList) = false := beq_eq_false_iff_ne.mpr c11
                  have c11b1 : (t103.toList != a1_7.toList) = true := bne_iff_ne.mpr c11
                  exact absurd H (by simp)
              · rw [if_neg c9] at H
                have c9b0 : (a0_6 == a1_6) = false := beq_eq_false_iff_ne.mpr c9
                have c9b1 : (a0_6 != a1_6) = true := bne_iff_ne.mpr c9
                exact absurd H (by simp)
            · rw [if_neg c8] at H
              have c8b0 : (a0_5 == a1_5) = false := beq_eq_false_iff_ne.mpr c8
              have c8b1 : (a0_5 != a1_5) = true := bne_iff_ne.mpr c8
              exact absurd H (by simp)
          · rw [if_neg c7] at H
            have c7b0 : (a0_4 == a1_4) = false := beq_eq_false_iff_ne.mpr c7
            have c7b1 : (a0_4 != a1_4) = true := bne_iff_ne.mpr c7
            exact absurd H (by simp)
        · rw [if_neg c6] at H
          have c6b0 : (a0_3 == a1_3) = false := beq_eq_false_iff_ne.mpr c6
          have c6b1 : (a0_3 != a1_3) = true := bne_iff_ne.mpr c6
          exact absurd H (by simp)
      · rw [if_neg c5] at H
        have c5b0 : (a0_2.toList == a1_2.toList) = false := beq_eq_false_iff_ne.mpr c5
        have c5b1 : (a0_2.toList != a1_2.toList) = true := bne_iff_ne.mpr c5
        exact absurd H (by simp)
    · rw [if_neg c4] at H
      have c4b0 : (a0_1 == a1_1) = false := beq_eq_false_iff_ne.mpr c4
      have c4b1 : (a0_1 != a1_1) = true := bne_iff_ne.mpr c4
      exact absurd H (by simp)
  · rw [if_neg c3] at H
    have c3b0 : (a0_0 == a1_0) = false := beq_eq_false_iff_ne.mpr c3
    have c3b1 : (a0_0 != a1_0) = true := bne_iff_ne.mpr c3
    exact absurd H (by simp)

end Go.Proofs.YtjoncjnmhhimhaaDoor.PT13s
end
