/- TopText: walks and plain laws, part 44: lemmas on what the functions that the law comes to compute. -/
import Derived.Test.YtjelneeeijjpiaaGreatDoorG43
set_option linter.unusedVariables false
set_option linter.unusedSimpArgs false
section
namespace Go.Proofs.YtjelneeeijjpiaaGreatDoor
open Go.RowKit
open Go.Proofs.Le Go.Proofs.Lw
theorem quo_size (l : List UInt8) (h : l.length ≤ 100) : (⟨(betL 34 l).toArray⟩ : ByteArray).size < 1000 := by
  have h1 := escL_len 34 l
  have h2 : (⟨(betL 34 l).toArray⟩ : ByteArray).size = (betL 34 l).length := rfl
  have h3 : (betL 34 l).length = (escL 34 l).length + 2 := by simp [betL]
  omega
theorem law_any (t : ByteArray) (u : Bool) (w : World) (hTb : Tab w) : Calls Tryz.prog 3 #[.string t, .bool u] w fun e w' => AwP w e w' := by
  by_cases ht : t.size ≤ 100
  · cases hu : uright t.data.toList with
    | false => exact law_no t u ht (Lib.hid hu) w hTb
    | true =>
      have hs := quo_size t.data.toList ht
      cases u with
      | false => exact law_quote t _ ht (Lib.hid hu) (Lib.hid rfl) hs w hTb
      | true => exact law_units t _ ht (Lib.hid hu) (Lib.hid rfl) hs w hTb
  · exact law_long t u ht w hTb
end Go.Proofs.YtjelneeeijjpiaaGreatDoor
end
