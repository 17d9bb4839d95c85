import Derived.Test.YtgaghlbepnjhiaaGreatRg13
set_option linter.all false
namespace Go.Proofs.YtgaghlbepnjhiaaGreat
