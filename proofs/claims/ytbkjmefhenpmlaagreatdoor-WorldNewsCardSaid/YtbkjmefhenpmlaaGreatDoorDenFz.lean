/- All that functions come to. Printed by a program of this session. -/
import Derived.Test.YtbkjmefhenpmlaaGreatDoorDenF5
import Derived.Test.YtbkjmefhenpmlaaGreatDoorDenCard
