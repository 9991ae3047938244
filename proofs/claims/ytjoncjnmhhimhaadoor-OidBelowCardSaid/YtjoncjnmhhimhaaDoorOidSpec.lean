/- What the functions of the package oid compute: the plain functions, and the contracts' names. -/
import Derived.Test.YtjoncjnmhhimhaaDoorOidPlain
import Derived.Test.YtjoncjnmhhimhaaDoorLaid
namespace Go.Proofs.YtjoncjnmhhimhaaDoor.Oid
set_option linter.unusedVariables false
set_option linter.unusedSimpArgs false
open Go.Lib

/-- The group of a number; 'mark' is laid on the last byte. -/
def grpL (n : Nat) (mark : Nat) : List Int :=
  if h : n < 128 then [((n % 128 + mark : Nat) : Int)] else grpL (n / 128) 128 ++ [((n % 128 + mark : Nat) : Int)]
termination_by n
decreasing_by omega
def contentL (l : List Int) : List Int := grpL (40 * (l.getD 0 0).toNat + (l.getD 1 0).toNat) 0 ++ (l.drop 2).flatMap fun n => grpL n.toNat 0
/-- The program's loop over the bytes of a content. -/
def readLoop : List Int → List Int → Int → Bool → Option (List Int × Bool)
  | [], out, _, op => some (out, op)
  | c :: r, out, n, op =>
    if (op = false ∧ c = 128) ∨ 20 < out.length then some (out, true)
    else if 4294967296 ≤ n then none
    else if 128 ≤ c then readLoop r out (n * 128 + c % 128) true
    else if 4294967296 ≤ n * 128 + c % 128 then none
    else if out = [] then readLoop r [min ((n * 128 + c % 128) / 40) 2, n * 128 + c % 128 - 40 * min ((n * 128 + c % 128) / 40) 2] 0 false
    else readLoop r (out ++ [n * 128 + c % 128]) 0 false
def readL (b : List Int) : List Int × Bool :=
  match readLoop b [] 0 false with
  | some (out, false) => if validB out then (out, true) else ([], false)
  | _ => ([], false)
end Go.Proofs.YtjoncjnmhhimhaaDoor.Oid
namespace Go.Proofs.YtjoncjnmhhimhaaDoor.Hand
open Go.Proofs.YtjoncjnmhhimhaaDoor.Oid
def oid_Valid.f (l0 : List Int) : Option Bool := some (validB l0)
def oid_Text.f (l0 : List Int) : Option ByteArray := if (l0.all fun x => decide (0 ≤ x)) = true then some (textB l0) else none
def oid_Parse.f (a0 : ByteArray) : Option (List Int × Bool) := if a0.size < 4294967281 then some (parseB a0) else none
def oid_Content.f (l0 : List Int) : Option (List Int) := if (l0.all fun x => decide (0 ≤ x)) = true then some (if validB l0 = true then contentL l0 else []) else none
def oid_Read.f (l0 : List Int) : Option (List Int × Bool) := if l0.length ≤ 140737488355328 ∧ (l0.all fun x => decide (0 ≤ x) && decide (x < 256)) = true then some (readL l0) else none
end Go.Proofs.YtjoncjnmhhimhaaDoor.Hand
