/- All walks. -/
import Derived.Test.YtkgfdplcjdidhaaRg1
import Derived.Test.YtkgfdplcjdidhaaRg2
import Derived.Test.YtkgfdplcjdidhaaRg3
namespace Go.Proofs.Ytkgfdplcjdidhaa
end Go.Proofs.Ytkgfdplcjdidhaa
