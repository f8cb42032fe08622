/- All that functions come to. Printed by a program of this session. -/
import Derived.Test.YtdfhopakojmjkaaDoorDenF5
import Derived.Test.YtdfhopakojmjkaaDoorDenCard
