/- All walks. -/
import Derived.Test.YtmgflnbgkpcbdaaRg1
import Derived.Test.YtmgflnbgkpcbdaaRg2
import Derived.Test.YtmgflnbgkpcbdaaRg3
namespace Go.Proofs.Ytmgflnbgkpcbdaa
end Go.Proofs.Ytmgflnbgkpcbdaa
