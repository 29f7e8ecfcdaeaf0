/- A part of the proof that the law PiecesRules answers true at every input and leaves its arguments as they were. -/
import Derived.Test.YtnkaneggnjallaaGreatDoorHr2
set_option linter.unusedVariables false
set_option linter.unusedSimpArgs false
namespace Go.Sx
def CX (c0 c1 d0 d1 : Int) (n : Nat) (r : Bool) : Bool :=
  let t := w13_Instant (n : Int) r
  let X := qu_Linear (ra_FromInt c0) (ra_FromInt c1)
  let Y := qu_Linear (ra_FromInt d0) (ra_FromInt d1)
  let RX := qu_Reduce X t
  let RY := qu_Reduce Y t
  (decide (RX.c0 = RY.c0 ∧ RX.c1 = RY.c1) == qu_Same X Y t) && qu_Same (qu_Linear RX.c0 RX.c1) X t
def I3 : List Int := [-3, -2, -1, 0, 1, 2, 3]
def I2 : List Int := [-2, -1, 0, 1, 2]
def I1 : List Int := [-1, 0, 1]
def N8 : List Nat := [0, 1, 2, 3, 4, 5, 6, 7]
def allX (ns : List Nat) (rs : List Bool) : Bool := I3.all fun c0 => I2.all fun c1 => I3.all fun d0 => I2.all fun d1 => ns.all fun n => rs.all fun r => CX c0 c1 d0 d1 n r
end Go.Sx
