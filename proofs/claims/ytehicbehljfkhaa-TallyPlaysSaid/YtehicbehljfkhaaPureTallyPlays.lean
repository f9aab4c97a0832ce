/- The law TallyPlays is walked by hand, whole: nothing is left to its plain half. -/
import Derived.Test.YtehicbehljfkhaaPTallyPlaysx1
-- merged out of the texts of this work that it leads to

namespace Go.Proofs.Ytehicbehljfkhaa.Pure
open Go.RowKit Go.Proofs.Ytehicbehljfkhaa.PTallyPlays

theorem TallyPlays : carousellaw07_TallyPlays.Pure := trivial

end Go.Proofs.Ytehicbehljfkhaa.Pure
