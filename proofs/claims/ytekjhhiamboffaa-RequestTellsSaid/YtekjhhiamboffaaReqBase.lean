/-
  What the laws of layer 20 rest on: the contracts of layers 1, 3, 5 and 6, brought together. No condition.
-/
import Derived.Test.YtekjhhiamboffaaTlvLaws
import Derived.Test.YtekjhhiamboffaaTlvRef
import Derived.Test.YtekjhhiamboffaaTlvRefTake
import Derived.Test.YtekjhhiamboffaaTexts2
import Derived.Test.YtekjhhiamboffaaRef05
import Derived.Test.YtekjhhiamboffaaFit05
import Derived.Test.YtekjhhiamboffaaPlanSplit
import Derived.Test.YtekjhhiamboffaaPick20
namespace Go.Proofs.Ytekjhhiamboffaa
end Go.Proofs.Ytekjhhiamboffaa
