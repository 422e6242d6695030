/-
  The texts of layer 39 joined.
  Conditions: none.
-/
import Derived.Test.YthbeppgbmkjfdaaTW
import Derived.Test.YthbeppgbmkjfdaaTT
namespace Go.Proofs.Ythbeppgbmkjfdaa
end Go.Proofs.Ythbeppgbmkjfdaa
