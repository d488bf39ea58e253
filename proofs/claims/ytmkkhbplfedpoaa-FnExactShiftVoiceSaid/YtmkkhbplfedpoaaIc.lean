/- The walks of the functions from pitches to intervals and back. No condition. -/
import Derived.Test.YtmkkhbplfedpoaaIb
import Derived.Test.YtmkkhbplfedpoaaKitb
namespace Go.Proofs.Ytmkkhbplfedpoaa
open Go.RowKit

def ofB (s a o s' a' o' x y : Int) : Bool := pitchB s a o && pitchB s' a' o' && intB x y
def ofX (b : Bool) (x : Int) : Int := if b then x else 0

end Go.Proofs.Ytmkkhbplfedpoaa
