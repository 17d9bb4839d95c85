/- All walks. -/
import Derived.Test.YtkohjagmjnpdnaaGreatRg1
import Derived.Test.YtkohjagmjnpdnaaGreatRg2
import Derived.Test.YtkohjagmjnpdnaaGreatRg3
import Derived.Test.YtkohjagmjnpdnaaGreatRg4
import Derived.Test.YtkohjagmjnpdnaaGreatRg5
namespace Go.Proofs.YtkohjagmjnpdnaaGreat
end Go.Proofs.YtkohjagmjnpdnaaGreat
