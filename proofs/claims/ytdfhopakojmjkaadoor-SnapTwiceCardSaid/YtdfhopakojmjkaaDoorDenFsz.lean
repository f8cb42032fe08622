/- All that functions come to. Printed by a program of this session. -/
import Derived.Test.YtdfhopakojmjkaaDoorDenFs3
import Derived.Test.YtdfhopakojmjkaaDoorDenCard
