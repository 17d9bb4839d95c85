/- All walks. -/
import Derived.Test.YtnpghnnlcakbfaaRg1
import Derived.Test.YtnpghnnlcakbfaaRg2
import Derived.Test.YtnpghnnlcakbfaaRg3
namespace Go.Proofs.Ytnpghnnlcakbfaa
end Go.Proofs.Ytnpghnnlcakbfaa
