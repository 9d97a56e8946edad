/- What the walks lean on. -/
import Derived.Test.YthadibmgahlpfaaDBase
import Derived.Test.YthadibmgahlpfaaSlB
import Derived.Test.YthadibmgahlpfaaSlI
import Derived.Test.YthadibmgahlpfaaSlS
import Derived.Test.YthadibmgahlpfaaSlT
import Derived.Test.YthadibmgahlpfaaSlV
