/-
  The texts of layer 29 joined.
  Conditions: none.
-/
import Derived.Test.YtopefbajeinbkaaSM
import Derived.Test.YtopefbajeinbkaaSL
import Derived.Test.YtopefbajeinbkaaSJ
namespace Go.Proofs.Ytopefbajeinbkaa
end Go.Proofs.Ytopefbajeinbkaa
