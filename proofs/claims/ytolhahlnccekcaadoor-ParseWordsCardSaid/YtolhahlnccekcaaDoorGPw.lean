/-
  All walks.
-/
import Derived.Test.YtolhahlnccekcaaDoorGPw2
