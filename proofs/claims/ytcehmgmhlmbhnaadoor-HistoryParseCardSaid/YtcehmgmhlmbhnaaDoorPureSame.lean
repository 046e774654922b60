/- The two Parses of histories give the same. -/
import Derived.Test.YtcehmgmhlmbhnaaDoorPr20
import Derived.Test.YtcehmgmhlmbhnaaDoorPureParse
namespace Go.Proofs.YtcehmgmhlmbhnaaDoor.Pure
open Go.RowKit Go.Proofs.YtcehmgmhlmbhnaaDoor Go.Proofs.YtcehmgmhlmbhnaaDoor.Pr Go.Proofs.YtcehmgmhlmbhnaaDoorW.PrintWords
theorem ev_same (s : List UInt8) : Ev (fun k => insolvencylaw25_same.f k (bs s)) true := by
  have hl := parse_len s
  refine Ev.bind (ev_parse_h s) (Ev.bind (ev_parse_r s) (Ev.bind (ev_same_rows _ (by omega)) ?_))
  refine Ev.congr (fun k => by rw [if_pos rfl, if_pos rfl]) ?_
  simpa using Ev.now true
end Go.Proofs.YtcehmgmhlmbhnaaDoor.Pure
