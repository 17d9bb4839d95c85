import Derived.Test.YtmngjhagbjgmfaaGreatRg12
set_option linter.all false
namespace Go.Proofs.YtmngjhagbjgmfaaGreat
