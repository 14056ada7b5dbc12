import Derived.Test.YtcbjabnnokjnpaaGfFM
set_option linter.all false
/- The basis X_j of layer 13 and its values. Plain maths. -/
set_option linter.unusedVariables false
namespace Go.Fw
end Go.Fw
