/- TlvJoins' contract for rows that came in. -/
import Derived.Test.YtekgienbhpknlaaWShare
import Derived.Test.YtekgienbhpknlaaWN
import Derived.Test.YtekgienbhpknlaaPLx0
import Derived.Test.YtekgienbhpknlaaPLx7
namespace Go.Proofs.Ytekgienbhpknlaa.G
open Go Go.RowKit Go.Proofs.Ytekgienbhpknlaa.PL Go.Proofs.YtekgienbhpknlaaW.PrintWords Go.Proofs.YtekgienbhpknlaaW.PrintLast Go.Proofs.YtekgienbhpknlaaW.PrintMore
theorem V_of_C {w : World} {A : Option Addr} {c : Nat} {l : List S40} (h : Kd.C k40 w A l.length l) (hc : l.length ≤ c) : Kd.V k40 40 w w.heap.size (fun _ => True) (.slice A l.length c) l :=
  Kd.V_mk hc (fun _ hW => k40_heap.C (fun k hk => hW k trivial hk) h)
theorem TlvJoins_calls (k : Nat) (A0 : Option Addr) (c0 : Nat) (l0 : List S40) (A1 : Option Addr) (c1 : Nat) (l1 : List S40) (r : Bool) (w : World) (hr0 : Kd.C k40 w A0 l0.length l0) (hc0 : l0.length ≤ c0) (hr1 : Kd.C k40 w A1 l1.length l1) (hc1 : l1.length ≤ c1) (h : gatelinelaw17_TlvJoins.f k l0 l1 = some r) :
    Calls Try.prog 8 #[.slice A0 l0.length c0, .slice A1 l1.length c1] w fun e w' => e = .returned (.bool r) ∧ Below w.heap.size w w' :=
  gatelinelaw17_TlvJoins.calls k (fun _ => True) A0 c0 l0 (fun _ => True) A1 c1 l1 r w (V_of_C hr0 hc0) (V_of_C hr1 hc1) h
end Go.Proofs.Ytekgienbhpknlaa.G
