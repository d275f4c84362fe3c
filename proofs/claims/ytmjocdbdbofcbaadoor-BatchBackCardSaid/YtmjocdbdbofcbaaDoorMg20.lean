/-
  Part of the proof of a statement about the given program: an abstract machine over its code, the simulation, its functions' equations, what they compute.
-/
import Derived.Test.YtmjocdbdbofcbaaDoorMg18
import Derived.Test.YtmjocdbdbofcbaaDoorMg19
import Derived.Test.YtmjocdbdbofcbaaDoorMg3
section
set_option maxRecDepth 100000
namespace Go.Proofs.YtmjocdbdbofcbaaDoor
open Go AM

theorem follows : P.follows .mixedOrders = true := by kernel_rfl
theorem laysOk : laysAll P = true := by kernel_rfl
theorem lay : Lay P := lay_of laysOk
theorem names_ok : namesOk P = true := by kernel_rfl
theorem rets_ok : retsOk P ann = true := by kernel_rfl
theorem chk_all : chkAll P ann = true := by kernel_rfl

end Go.Proofs.YtmjocdbdbofcbaaDoor
end
