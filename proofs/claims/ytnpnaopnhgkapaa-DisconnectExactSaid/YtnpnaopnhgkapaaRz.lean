/- All walks. -/
import Derived.Test.YtnpnaopnhgkapaaRg1
import Derived.Test.YtnpnaopnhgkapaaRg2
import Derived.Test.YtnpnaopnhgkapaaRg3
import Derived.Test.YtnpnaopnhgkapaaRg4
namespace Go.Proofs.Ytnpnaopnhgkapaa
end Go.Proofs.Ytnpnaopnhgkapaa
