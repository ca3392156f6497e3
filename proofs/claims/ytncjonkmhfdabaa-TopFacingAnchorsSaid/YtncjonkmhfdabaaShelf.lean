/- The contracts of the library's functions, laid by program at this translation. -/
import Derived.Shelf.Small.Strs
import Derived.Shelf.Strings.Search1
import Derived.Shelf.Bits.Mul64
import Derived.Test.YtncjonkmhfdabaaProg
namespace Go.Proofs
open Go.Shelf
end Go.Proofs
