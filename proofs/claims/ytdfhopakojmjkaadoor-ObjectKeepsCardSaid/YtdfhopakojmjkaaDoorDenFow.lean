/- Words. Printed by a program of this session. -/
import Derived.Test.YtdfhopakojmjkaaDoorDenFz
namespace Go.Proofs.YtdfhopakojmjkaaDoor.Den
open Go
set_option maxRecDepth 100000
set_option linter.unusedVariables false

end Go.Proofs.YtdfhopakojmjkaaDoor.Den
