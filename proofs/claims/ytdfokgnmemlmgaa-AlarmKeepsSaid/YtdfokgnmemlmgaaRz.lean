/- All walks. -/
import Derived.Test.YtdfokgnmemlmgaaRg1
import Derived.Test.YtdfokgnmemlmgaaRg2
namespace Go.Proofs.Ytdfokgnmemlmgaa
end Go.Proofs.Ytdfokgnmemlmgaa
