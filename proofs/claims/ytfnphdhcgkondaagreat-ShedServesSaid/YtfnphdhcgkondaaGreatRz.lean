/- All walks. -/
import Derived.Test.YtfnphdhcgkondaaGreatRg1
import Derived.Test.YtfnphdhcgkondaaGreatRg2
import Derived.Test.YtfnphdhcgkondaaGreatRg3
import Derived.Test.YtfnphdhcgkondaaGreatRg4
import Derived.Test.YtfnphdhcgkondaaGreatRg5
namespace Go.Proofs.YtfnphdhcgkondaaGreat
end Go.Proofs.YtfnphdhcgkondaaGreat
