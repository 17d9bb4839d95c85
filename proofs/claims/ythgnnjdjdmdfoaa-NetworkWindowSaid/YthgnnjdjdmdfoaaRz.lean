/- All walks. -/
import Derived.Test.YthgnnjdjdmdfoaaRg1
import Derived.Test.YthgnnjdjdmdfoaaRg2
import Derived.Test.YthgnnjdjdmdfoaaRg3
namespace Go.Proofs.Ythgnnjdjdmdfoaa
end Go.Proofs.Ythgnnjdjdmdfoaa
