/- All that functions come to. Printed by a program of this session. -/
import Derived.Test.YtdiogegolnoeoaaDoorDenF7
import Derived.Test.YtdiogegolnoeoaaDoorDenCard
