/- All that functions come to. Printed by a program of this session. -/
import Derived.Test.YtkjpakaidjpjgaaGreatDoorDenF7
import Derived.Test.YtkjpakaidjpjgaaGreatDoorDenCard
