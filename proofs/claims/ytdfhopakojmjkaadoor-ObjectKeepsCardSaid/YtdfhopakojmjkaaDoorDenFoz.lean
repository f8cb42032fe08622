/- All that functions come to. Printed by a program of this session. -/
import Derived.Test.YtdfhopakojmjkaaDoorDenFo1
import Derived.Test.YtdfhopakojmjkaaDoorDenCard
