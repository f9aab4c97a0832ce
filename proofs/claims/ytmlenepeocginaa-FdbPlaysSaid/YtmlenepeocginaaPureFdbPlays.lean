/- The law FdbPlays is walked by hand, whole: nothing is left to its plain half. -/
import Derived.Test.YtmlenepeocginaaPFdbPlaysx5
-- merged out of the texts of this work that it leads to

namespace Go.Proofs.Ytmlenepeocginaa.Pure
open Go.RowKit Go.Proofs.Ytmlenepeocginaa.PFdbPlays

theorem FdbPlays : carousellaw11_FdbPlays.Pure := trivial

end Go.Proofs.Ytmlenepeocginaa.Pure
