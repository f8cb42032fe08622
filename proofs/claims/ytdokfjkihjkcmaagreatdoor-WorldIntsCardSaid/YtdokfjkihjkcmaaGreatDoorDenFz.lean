/- All that functions come to. Printed by a program of this session. -/
import Derived.Test.YtdokfjkihjkcmaaGreatDoorDenF4
import Derived.Test.YtdokfjkihjkcmaaGreatDoorDenCard
