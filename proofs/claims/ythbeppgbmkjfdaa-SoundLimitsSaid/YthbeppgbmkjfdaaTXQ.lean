/-
  The texts of layer 39 joined.
  Conditions: none.
-/
import Derived.Test.YthbeppgbmkjfdaaTW
import Derived.Test.YthbeppgbmkjfdaaTQ
namespace Go.Proofs.Ythbeppgbmkjfdaa
end Go.Proofs.Ythbeppgbmkjfdaa
