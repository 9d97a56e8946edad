/- What the walks lean on. -/
import Derived.Test.YtfpbohfefliljaaDBase
import Derived.Test.YtfpbohfefliljaaDEq
import Derived.Test.YtfpbohfefliljaaDiB
import Derived.Test.YtfpbohfefliljaaDiI
import Derived.Test.YtfpbohfefliljaaDiS
import Derived.Test.YtfpbohfefliljaaDiT
import Derived.Test.YtfpbohfefliljaaDiV
import Derived.Test.YtfpbohfefliljaaSlB
import Derived.Test.YtfpbohfefliljaaSlI
import Derived.Test.YtfpbohfefliljaaSlS
import Derived.Test.YtfpbohfefliljaaSlT
import Derived.Test.YtfpbohfefliljaaSlV
