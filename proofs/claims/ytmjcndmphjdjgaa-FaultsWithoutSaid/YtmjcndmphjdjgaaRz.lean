/- All walks. -/
import Derived.Test.YtmjcndmphjdjgaaRg1
import Derived.Test.YtmjcndmphjdjgaaRg2
import Derived.Test.YtmjcndmphjdjgaaRg3
namespace Go.Proofs.Ytmjcndmphjdjgaa
end Go.Proofs.Ytmjcndmphjdjgaa
