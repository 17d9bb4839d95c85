/- All walks. -/
import Derived.Test.YtkcjbcmpnoaghaaRg1
import Derived.Test.YtkcjbcmpnoaghaaRg2
import Derived.Test.YtkcjbcmpnoaghaaRg3
import Derived.Test.YtkcjbcmpnoaghaaRg4
namespace Go.Proofs.Ytkcjbcmpnoaghaa
end Go.Proofs.Ytkcjbcmpnoaghaa
