/- The journal is atomic: plain lemmas. -/
import Derived.Test.YtlibhidhfbecbaaQPure
namespace Go.Proofs.Ytlibhidhfbecbaa.SL.D
set_option linter.unusedVariables false
set_option linter.unusedSimpArgs false
open Go Go.Proofs.Ytlibhidhfbecbaa.SL Go.Proofs.Ytlibhidhfbecbaa.SL.W

def keepN (wt : Wt) (ks : List Bool) : Nat → Wt
  | 0 => []
  | n + 1 => if ks.getD n false = true then keepN wt ks n ++ [wt.getD n (0, [])] else keepN wt ks n
def kept (wt : Wt) (ks : List Bool) : Wt := keepN wt ks wt.length
def view (n : Nat) (s : List Int) : List (List Int) := seenW n s (layL (logged n s []))
end Go.Proofs.Ytlibhidhfbecbaa.SL.D
