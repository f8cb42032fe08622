/- All that functions come to. Printed by a program of this session. -/
import Derived.Test.YtebdioogklmeaaaDoorDenF6
import Derived.Test.YtebdioogklmeaaaDoorDenCard
