/- All that functions come to. Printed by a program of this session. -/
import Derived.Test.YtkjpakaidjpjgaaGreatDoorDfnF6
import Derived.Test.YtkjpakaidjpjgaaGreatDoorDfnCard
