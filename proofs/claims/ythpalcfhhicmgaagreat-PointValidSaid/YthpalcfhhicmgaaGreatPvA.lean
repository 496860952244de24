/- Data: a bool known by a proof. -/
import Derived.Test.YthpalcfhhicmgaaGreatMkN
namespace Go.Proofs.YthpalcfhhicmgaaGreat
open Go Go.RowKit
theorem sem_castb {P : Program} {ops : Array Oper} {o : Oper} {T : TF} {B : BF} {b c : Bool} (h : Sem P ops o T B (.r (.v (.c (.b b))))) (e : b = c) : Sem P ops o T B (.r (.v (.c (.b c)))) := by subst e; exact h
end Go.Proofs.YthpalcfhhicmgaaGreat
