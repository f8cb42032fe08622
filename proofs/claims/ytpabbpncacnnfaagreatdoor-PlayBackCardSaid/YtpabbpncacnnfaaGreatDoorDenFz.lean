/- All that functions come to. Printed by a program of this session. -/
import Derived.Test.YtpabbpncacnnfaaGreatDoorDenF3
import Derived.Test.YtpabbpncacnnfaaGreatDoorDenCard
