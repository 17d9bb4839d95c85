/- All walks. -/
import Derived.Test.YtdfkfohpgakihaaRg1
import Derived.Test.YtdfkfohpgakihaaRg2
import Derived.Test.YtdfkfohpgakihaaRg3
import Derived.Test.YtdfkfohpgakihaaRg4
import Derived.Test.YtdfkfohpgakihaaRg5
namespace Go.Proofs.Ytdfkfohpgakihaa
end Go.Proofs.Ytdfkfohpgakihaa
