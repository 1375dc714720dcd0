/-
  tree.CheckPath at this seat: its contract.
-/
import Derived.Test.YtlkndcbimdcnpaaDoorSpb8D
import Derived.Test.YtlkndcbimdcnpaaDoorCona1
import Derived.Test.YtlkndcbimdcnpaaDoorSh8D

set_option linter.unusedSimpArgs false
set_option linter.unusedVariables false
set_option linter.unnecessarySimpa false
set_option maxRecDepth 100000
open Go Go.Proofs
namespace Go.AE.Seat
theorem arr1p {vs:Array Value} (h:vs.size=1):vs=#[vs.getD 0 undef]:=by
  apply Array.ext
  · simpa using h
  · intro i h2 h3
    have:i=0:=by simp at h3;omega
    subst this
    simp[Array.getD,h2]
theorem has_tree_CheckPath:Has Tryd.prog 56 S_tree_CheckPath:=by
  refine⟨by kernel_rfl,.of1 fun p hp w I vs hW _ hs hr=>?_⟩
  have h0:=hr 0 (by simp)
  rw[arr1p hs]
  generalize vs.getD 0 undef=a at h0 ⊢
  cases h0
  refine (callsIn_wide.1 (Tryd.checkPath_in 3 (Nat.le_refl _) p w)).mono ?_
  rintro e w' ⟨rfl,hb⟩
  exact⟨_,rfl,.int _ _,hb⟩
end Go.AE.Seat
