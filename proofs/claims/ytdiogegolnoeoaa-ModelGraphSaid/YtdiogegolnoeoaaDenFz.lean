/- All that functions come to. Printed by a program of this session. -/
import Derived.Test.YtdiogegolnoeoaaDenF3
import Derived.Test.YtdiogegolnoeoaaDenCard
