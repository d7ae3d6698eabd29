/-
 Plain facts about lists: the first index at which a test holds, what filters and sets leave.
-/
import Derived.Test.YtbkgibgomohdjaaGreatDoorRow
namespace Go.Eng
open Go.RowKit

section
variable {α : Type} {p : α → Bool} {L M : List α} {k : Nat} {y : α}
theorem take_snoc (h : L[k]? = some y) : L.take (k + 1) = L.take k ++ [y] := by
 obtain ⟨h1, h2⟩ := List.getElem?_eq_some_iff.1 h
 rw [List.take_succ_eq_append_getElem h1, h2]
theorem take_set_snoc {i : Nat} (h : i < M.length) : (M.set i y).take (i + 1) = M.take i ++ [y] := by
 have : (M.set i y)[i]? = some y := by simp [h]
 rw [take_snoc this, List.take_set_of_le (by omega)]
theorem drop_succ_eq {j : Nat} (h : M.drop j = L.drop j) : M.drop (j + 1) = L.drop (j + 1) := by
 have := congrArg (List.drop 1) h
 simpa [List.drop_drop] using this
end
end Go.Eng
