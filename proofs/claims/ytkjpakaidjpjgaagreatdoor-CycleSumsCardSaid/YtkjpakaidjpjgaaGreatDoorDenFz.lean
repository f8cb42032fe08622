/- All that functions come to. Printed by a program of this session. -/
import Derived.Test.YtkjpakaidjpjgaaGreatDoorDenF6
import Derived.Test.YtkjpakaidjpjgaaGreatDoorDenCard
