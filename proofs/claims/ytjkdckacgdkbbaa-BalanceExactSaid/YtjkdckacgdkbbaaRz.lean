/- All walks. -/
import Derived.Test.YtjkdckacgdkbbaaRg1
import Derived.Test.YtjkdckacgdkbbaaRg2
import Derived.Test.YtjkdckacgdkbbaaRg3
import Derived.Test.YtjkdckacgdkbbaaRg4
namespace Go.Proofs.Ytjkdckacgdkbbaa
end Go.Proofs.Ytjkdckacgdkbbaa
