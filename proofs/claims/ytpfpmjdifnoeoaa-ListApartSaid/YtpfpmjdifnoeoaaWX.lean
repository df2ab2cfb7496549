/- More words about rows, worlds and kinds; no condition. -/
import Derived.Test.YtpfpmjdifnoeoaaWAll
set_option linter.unusedVariables false
set_option linter.unusedSimpArgs false
namespace Go.Proofs.YtpfpmjdifnoeoaaW.PrintWords
open Go.RowKit
namespace Kd
theorem heap_int (k : IntKind) : Heap (Kd.int k) := ⟨fun _ h => h⟩
end Kd
end Go.Proofs.YtpfpmjdifnoeoaaW.PrintWords
namespace Go.Proofs.YtpfpmjdifnoeoaaW.PrintWords
open Go.RowKit
namespace Kd
section
variable {α β : Type} {d : Kd α} {e base n n' cc g N : Nat} {ok ok' okp S : Nat → Prop} {w w0 w1 W W1 : World} {A A' : Option Addr} {u v v1 : Value} {xs : List α} {xs' : List β} {d' : Kd β} {x : α} {c : List Value}
theorem C_F (hd : Heap d) (h : d.C w A n xs) : F d w (fun k => k < w.heap.size) A n xs := fun _ hW => hd.C (fun k hlt => hW k hlt hlt) h
end
end Kd
end Go.Proofs.YtpfpmjdifnoeoaaW.PrintWords
