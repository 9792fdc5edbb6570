/- squeezed.  -/
import Derived.Test.YtmacemcajlgddaaGreatDoorK33
import Derived.Test.YtmacemcajlgddaaGreatDoorK49
import Derived.Test.YtmacemcajlgddaaGreatDoorK29
set_option linter.unusedVariables false
set_option linter.unusedSimpArgs false
