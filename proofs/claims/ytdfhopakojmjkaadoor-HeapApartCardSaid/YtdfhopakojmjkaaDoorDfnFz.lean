/- All that functions come to. Printed by a program of this session. -/
import Derived.Test.YtdfhopakojmjkaaDoorDfnF4
import Derived.Test.YtdfhopakojmjkaaDoorDfnCard
