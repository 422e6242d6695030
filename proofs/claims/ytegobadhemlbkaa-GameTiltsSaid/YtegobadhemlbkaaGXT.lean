/-
  The texts of layer 42 joined.
  Conditions: none.
-/
import Derived.Test.YtegobadhemlbkaaGW
import Derived.Test.YtegobadhemlbkaaGV
namespace Go.Proofs.Ytegobadhemlbkaa
end Go.Proofs.Ytegobadhemlbkaa
