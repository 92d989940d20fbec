/- The decimal form of the references is that of strconv.Itoa. -/
import Derived.Test.YtefdjkakojfhnaaDoorDigv
import Derived.Lib.ItoaNum
namespace Go.Am
open Go Go.Proofs
theorem decDigits_digN (n : Nat) : Lib.decDigits n = digN n := by
  induction n using Nat.strongRecOn with
  | ind n ih =>
    rw [Lib.decDigits, digN]
    by_cases h : n < 10
    · rw [dif_pos h, dif_pos h]
    · rw [dif_neg h, dif_neg h, ih (n / 10) (by omega)]
theorem itoa_digV (n : Int) : Lib.itoa n = digV n := by
  unfold Lib.itoa digV
  by_cases h : n < 0
  · rw [if_pos h, if_pos h, decDigits_digN, show n.natAbs = (-n).toNat by omega]
  · rw [if_neg h, if_neg h, decDigits_digN]
end Go.Am
