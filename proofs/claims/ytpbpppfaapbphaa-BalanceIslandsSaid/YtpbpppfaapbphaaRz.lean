/- All walks. -/
import Derived.Test.YtpbpppfaapbphaaRg1
import Derived.Test.YtpbpppfaapbphaaRg2
import Derived.Test.YtpbpppfaapbphaaRg3
import Derived.Test.YtpbpppfaapbphaaRg4
import Derived.Test.YtpbpppfaapbphaaRg5
namespace Go.Proofs.Ytpbpppfaapbphaa
end Go.Proofs.Ytpbpppfaapbphaa
