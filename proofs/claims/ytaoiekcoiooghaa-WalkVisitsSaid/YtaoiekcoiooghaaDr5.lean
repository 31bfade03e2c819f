/- The directory reference's Apply. No condition. -/
import Derived.Test.YtaoiekcoiooghaaDr8
import Derived.Test.YtaoiekcoiooghaaDr5s
import Derived.Test.YtaoiekcoiooghaaDr5a
import Derived.Test.YtaoiekcoiooghaaDr5b
namespace Go.Proofs.Ytaoiekcoiooghaa
open Go.RowKit
theorem dapply_any : ApplyC := by
  intro L F hG m n hm hn hm1 g c f cf hmc hcm v hv kd fr tt md hkd hfr htt hmd w hr hf
  rcases hkd with rfl | rfl
  · exact dapply_split L F hG m n hm hn hm1 g c f cf hmc hcm v hv fr tt md hfr htt hmd w hr hf
  · by_cases hd : TtFr L fr tt
    · exact dapply_mergeB L F hG fr tt hd m n hm hn hm1 g c f cf hmc hcm v hv md hfr htt hmd w hr hf
    · exact dapply_mergeA L F hG fr tt hd m n hm hn hm1 g c f cf hmc hcm v hv md hfr htt hmd w hr hf
end Go.Proofs.Ytaoiekcoiooghaa
