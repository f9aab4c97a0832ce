/- The law PlanRings is walked by hand, whole: nothing is left to its plain half. -/
import Derived.Test.YtapicoienpbdfaaPPlanRingsx6
-- merged out of the texts of this work that it leads to

namespace Go.Proofs.Ytapicoienpbdfaa.Pure
open Go.RowKit Go.Proofs.Ytapicoienpbdfaa.PPlanRings

theorem PlanRings : carousellaw16_PlanRings.Pure := trivial

end Go.Proofs.Ytapicoienpbdfaa.Pure
