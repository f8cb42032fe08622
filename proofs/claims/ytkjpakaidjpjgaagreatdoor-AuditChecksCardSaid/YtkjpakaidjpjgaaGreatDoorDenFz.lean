/- All that functions come to. Printed by a program of this session. -/
import Derived.Test.YtkjpakaidjpjgaaGreatDoorDenF8
import Derived.Test.YtkjpakaidjpjgaaGreatDoorDenCard
