/- Chapter 5: what any bytes are decoded to, as a plain function. -/
import Derived.Test.YtehapoilfmgjgaaDe1
set_option linter.unusedVariables false
namespace Go.Proofs.Ytehapoilfmgjgaa.Oct
open Go.RowKit
/-- What any bytes are: the message, and the error. -/
def decP (f : Nat → Int) (n : Nat) : Msg × Int :=
  if n < 4 then (zeroMsg, 2)
  else if numAt f 0 2 ≠ 0 then (zeroMsg, 3)
  else if f 3 = 128 then ({ zeroMsg with kind := 1 }, 0)
  else if f 3 = 2 ∧ 2 ≤ f 2 then (if n < 36 then (zeroMsg, 2) else (bodyM f 2, 0))
  else if f 3 ≠ 0 then (zeroMsg, 4)
  else if n < 35 then (zeroMsg, 2)
  else if numAt f 29 2 ≤ numAt f 27 2 then (zeroMsg, 5)
  else (bodyM f 0, 0)
end Go.Proofs.Ytehapoilfmgjgaa.Oct
