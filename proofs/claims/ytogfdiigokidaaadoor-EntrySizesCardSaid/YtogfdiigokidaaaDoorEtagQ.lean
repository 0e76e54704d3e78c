/- Layer 21: entity tags: what the functions compute, in plain words. -/
import Derived.Test.YtogfdiigokidaaaDoorLib
import Derived.Test.YtogfdiigokidaaaDoorListLaw2
namespace Go.Eng.Pure.Etag
open Go Go.Eng Go.Eng.Pure

end Go.Eng.Pure.Etag
