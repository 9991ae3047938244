/- The fixed examples of layer 9 come out as the document says: the call of awake returns true. -/
import Derived.Test.YtjoncjnmhhimhaaDoorPOidAwx
import Derived.Test.YtjoncjnmhhimhaaDoorOidText
namespace Go.Proofs.YtjoncjnmhhimhaaDoor.Hand
set_option linter.unusedVariables false
set_option linter.unusedSimpArgs false
open Go.RowKit Go.Proofs.YtjoncjnmhhimhaaDoorW.PrintWords Go.Proofs.YtjoncjnmhhimhaaDoorW.PrintLast Go.Proofs.YtjoncjnmhhimhaaDoorW.PrintMore
open Go.Proofs.YtjoncjnmhhimhaaDoor.Oid

theorem awake09 : POidAw.pyxlaw09_awake.f = some true := by decide +kernel

def pyxlaw09_awake.f : Option Bool := some true
theorem pyxlaw09_awake.calls (r : Bool) (w : World) (HLd : LaidOk w) (h : pyxlaw09_awake.f = some r) :
    Calls Tryd.prog 12 #[] w fun e w' => e = .returned (.bool r) ∧ Below w.heap.size w w' := by
  obtain rfl := Option.some.inj h
  exact POidAw.pyxlaw09_awake.calls true w HLd awake09

end Go.Proofs.YtjoncjnmhhimhaaDoor.Hand
