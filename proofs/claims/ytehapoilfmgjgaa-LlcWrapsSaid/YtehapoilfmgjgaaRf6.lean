/- Chapters 5, 6: the document's Encode (layer 5) answers a message's bytes. Conditions: the message's numbers fit. -/
import Derived.Test.YtehapoilfmgjgaaRf4
import Derived.Test.YtehapoilfmgjgaaRf5
namespace Go.Proofs.Ytehapoilfmgjgaa.Oct
open Go.RowKit
theorem renc_any (m : Msg) (hm : MsgOk m) (w : World) : Calls Try.prog 15 #[.agg (rowM m)] w (REncTells m w) := by
  by_cases h0 : m.kind = 0
  · exact renc_0 m hm h0 w
  by_cases h2 : m.kind = 2
  · exact renc_2 m hm h2 w
  exact renc_few m hm ⟨h0, h2⟩ w
end Go.Proofs.Ytehapoilfmgjgaa.Oct
