/- strconv.Itoa beside its table, as a contract of the machine. -/
import Derived.Test.YtefdjkakojfhnaaDoorLayb
import Derived.Test.YtefdjkakojfhnaaDoorShelf
import Derived.Test.YtefdjkakojfhnaaDoorShelf
namespace Go.Am
open Go Go.Proofs
set_option maxRecDepth 100000
set_option linter.unusedVariables false
def tabCs : List Pd := tabC .u64 Lib.pow10Tab
theorem itoa_ok (n : Int) (h0 : -9223372036854775808 ≤ n) (h1 : n ≤ 9223372036854775807) : ACalls Tryd.prog 48 [.p (.int .i64 n)] [(1000000, (.glob 1 tabCs))] fun h r => h = [(1000000, (.glob 1 tabCs))] ∧ r = .p (.str (digV n)) := by
  rw [← itoa_digV]
  exact ACalls_itoa (by kernel_rfl) enters48 (fun n w h0 h1 ht => Tryd.strconv_Itoa n h0 h1 w ht) n h0 h1
end Go.Am
