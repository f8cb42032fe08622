/- The package-level arrays of whole numbers that the program only reads: what they hold. Of this translation. -/
import Derived.WalkKit
namespace Go.Proofs.YtdfhopakojmjkaaDoor.Den
open Go
def globsA : Nat → Option (IntKind × List Int)
  | 0 => some (.i64, [2, 4, 8, 16])
  | _ => none
end Go.Proofs.YtdfhopakojmjkaaDoor.Den
