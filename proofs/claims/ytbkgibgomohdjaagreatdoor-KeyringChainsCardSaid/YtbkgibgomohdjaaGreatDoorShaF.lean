/-
 SHA-256 of one block over numbers: a form that the kernel reckons; the identities of the few keys differ.
-/
import Derived.Test.YtbkgibgomohdjaaGreatDoorKeyP
import Derived.KernelRfl
namespace Go.Eng
end Go.Eng
