/- What functions of the program come to: parts of the walk (Cd). -/
import Derived.Test.YtkjbjgkjplmkhaaFc
/- Edwards' addition: the equations behind it, over the field. -/
namespace Go.Proofs.Ytkjbjgkjplmkhaa.Vm
theorem ed_assoc_x (d e x1 y1 x2 y2 x3 y3 : Fp) (hd : d * e = 1) (h1 : x1 * x1 * (y1 * y1) = e * (y1 * y1 - x1 * x1 - 1)) (h2 : x2 * x2 * (y2 * y2) = e * (y2 * y2 - x2 * x2 - 1)) (h3 : x3 * x3 * (y3 * y3) = e * (y3 * y3 - x3 * x3 - 1)) :
    ((x1 * y2 + x2 * y1) * y3 * (1 - d * (x1 * x2 * y1 * y2)) + x3 * (y1 * y2 + x1 * x2) * (1 + d * (x1 * x2 * y1 * y2))) * ((1 + d * (x2 * x3 * y2 * y3)) * (1 - d * (x2 * x3 * y2 * y3)) + d * (x1 * y1 * (x2 * y3 + x3 * y2) * (y2 * y3 + x2 * x3)))
      = (x1 * (y2 * y3 + x2 * x3) * (1 + d * (x2 * x3 * y2 * y3)) + y1 * (x2 * y3 + x3 * y2) * (1 - d * (x2 * x3 * y2 * y3))) * ((1 + d * (x1 * x2 * y1 * y2)) * (1 - d * (x1 * x2 * y1 * y2)) + d * ((x1 * y2 + x2 * y1) * (y1 * y2 + x1 * x2) * x3 * y3)) := by
  grind (splits := 0) (ringSteps := 1000000) -lia -linarith
theorem ed_assoc_y (d e x1 y1 x2 y2 x3 y3 : Fp) (hd : d * e = 1) (h1 : x1 * x1 * (y1 * y1) = e * (y1 * y1 - x1 * x1 - 1)) (h2 : x2 * x2 * (y2 * y2) = e * (y2 * y2 - x2 * x2 - 1)) (h3 : x3 * x3 * (y3 * y3) = e * (y3 * y3 - x3 * x3 - 1)) :
    ((y1 * y2 + x1 * x2) * y3 * (1 + d * (x1 * x2 * y1 * y2)) + (x1 * y2 + x2 * y1) * x3 * (1 - d * (x1 * x2 * y1 * y2))) * ((1 + d * (x2 * x3 * y2 * y3)) * (1 - d * (x2 * x3 * y2 * y3)) - d * (x1 * y1 * (x2 * y3 + x3 * y2) * (y2 * y3 + x2 * x3)))
      = (y1 * (y2 * y3 + x2 * x3) * (1 + d * (x2 * x3 * y2 * y3)) + x1 * (x2 * y3 + x3 * y2) * (1 - d * (x2 * x3 * y2 * y3))) * ((1 + d * (x1 * x2 * y1 * y2)) * (1 - d * (x1 * x2 * y1 * y2)) - d * ((x1 * y2 + x2 * y1) * (y1 * y2 + x1 * x2) * x3 * y3)) := by
  grind (splits := 0) (ringSteps := 1000000) -lia -linarith
theorem ed_closed (d e x1 y1 x2 y2 : Fp) (hd : d * e = 1) (h1 : x1 * x1 * (y1 * y1) = e * (y1 * y1 - x1 * x1 - 1)) (h2 : x2 * x2 * (y2 * y2) = e * (y2 * y2 - x2 * x2 - 1)) :
    (y1 * y2 + x1 * x2) * (y1 * y2 + x1 * x2) * ((1 + d * (x1 * x2 * y1 * y2)) * (1 + d * (x1 * x2 * y1 * y2))) - (x1 * y2 + x2 * y1) * (x1 * y2 + x2 * y1) * ((1 - d * (x1 * x2 * y1 * y2)) * (1 - d * (x1 * x2 * y1 * y2)))
      = (1 + d * (x1 * x2 * y1 * y2)) * (1 + d * (x1 * x2 * y1 * y2)) * ((1 - d * (x1 * x2 * y1 * y2)) * (1 - d * (x1 * x2 * y1 * y2))) + d * ((x1 * y2 + x2 * y1) * (x1 * y2 + x2 * y1) * ((y1 * y2 + x1 * x2) * (y1 * y2 + x1 * x2))) := by
  grind (splits := 0) (ringSteps := 1000000) -lia -linarith
/-- Two points whose sum and difference are known by their ordinates. -/
theorem ed_diff (d e x1 y1 x2 y2 : Fp) (hd : d * e = 1) (h1 : x1 * x1 * (y1 * y1) = e * (y1 * y1 - x1 * x1 - 1)) (h2 : x2 * x2 * (y2 * y2) = e * (y2 * y2 - x2 * x2 - 1)) :
    (y1 + y2) * (y1 + y2) * ((1 - d * (x1 * x2 * y1 * y2) - (y1 * y2 + x1 * x2)) * (1 + d * (x1 * x2 * y1 * y2) - (y1 * y2 - x1 * x2)))
      = (y2 - y1) * (y2 - y1) * ((1 - d * (x1 * x2 * y1 * y2) + (y1 * y2 + x1 * x2)) * (1 + d * (x1 * x2 * y1 * y2) + (y1 * y2 - x1 * x2))) := by
  grind (splits := 0) (ringSteps := 1000000) -lia -linarith
/-- Where a denominator is 0, d times a square is a square. -/
theorem ed_nz (d x1 y1 x2 y2 i s : Fp) (hi : i * i + 1 = 0) (hs : s * s = 1) (h1 : y1 * y1 - x1 * x1 = 1 + d * (x1 * x1) * (y1 * y1)) (h2 : y2 * y2 - x2 * x2 = 1 + d * (x2 * x2) * (y2 * y2)) (ht : d * (x1 * x2 * y1 * y2) = s) (t : Fp) (h3 : t * t = 1) :
    (i * x1 + t * s * y1) * (i * x1 + t * s * y1) = d * (x1 * y1 * (i * x2 + t * y2) * (x1 * y1 * (i * x2 + t * y2))) := by
  grind (splits := 0) (ringSteps := 1000000) -lia -linarith
end Go.Proofs.Ytkjbjgkjplmkhaa.Vm
