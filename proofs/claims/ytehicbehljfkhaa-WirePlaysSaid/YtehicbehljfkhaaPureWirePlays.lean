/- The law WirePlays is walked by hand, whole: nothing is left to its plain half. -/
import Derived.Test.YtehicbehljfkhaaPWirePlaysx1
-- merged out of the texts of this work that it leads to

namespace Go.Proofs.Ytehicbehljfkhaa.Pure
open Go.RowKit Go.Proofs.Ytehicbehljfkhaa.PWirePlays

theorem WirePlays : carousellaw21_WirePlays.Pure := trivial

end Go.Proofs.Ytehicbehljfkhaa.Pure
