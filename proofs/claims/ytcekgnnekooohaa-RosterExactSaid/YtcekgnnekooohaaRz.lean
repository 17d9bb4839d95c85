/- All walks. -/
import Derived.Test.YtcekgnnekooohaaRg1
import Derived.Test.YtcekgnnekooohaaRg2
import Derived.Test.YtcekgnnekooohaaRg3
import Derived.Test.YtcekgnnekooohaaRg4
import Derived.Test.YtcekgnnekooohaaRg5
namespace Go.Proofs.Ytcekgnnekooohaa
end Go.Proofs.Ytcekgnnekooohaa
