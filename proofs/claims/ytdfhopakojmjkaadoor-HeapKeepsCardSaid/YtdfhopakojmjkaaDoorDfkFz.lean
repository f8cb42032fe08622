/- All that functions come to. Printed by a program of this session. -/
import Derived.Test.YtdfhopakojmjkaaDoorDfkF4
import Derived.Test.YtdfhopakojmjkaaDoorDfkCard
