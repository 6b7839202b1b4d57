/- The numbers of states are those that the document gives, and calls whose answers it fixes are answered so: with no condition. -/
import Derived.Test.YtoanhimhomgjmaaPProx6
namespace Go.Proofs.Ytoanhimhomgjmaa.Pure
open Go.RowKit Go.Proofs.Ytoanhimhomgjmaa.PPro Go.Proofs.YtoanhimhomgjmaaW.PrintWords Go.Proofs.YtoanhimhomgjmaaW.PrintLast

theorem ProbeNames : wigwaglaw13_ProbeNames.Pure := ⟨40, by decide +kernel⟩
end Go.Proofs.Ytoanhimhomgjmaa.Pure
