/- All printed functions. -/
import Derived.Test.YthfhhnlnlcbckaaQg0
import Derived.Test.YthfhhnlnlcbckaaQg1
import Derived.Test.YthfhhnlnlcbckaaQg2
import Derived.Test.YthfhhnlnlcbckaaQg3
import Derived.Test.YthfhhnlnlcbckaaQg4
import Derived.Test.YthfhhnlnlcbckaaQg5
import Derived.Test.YthfhhnlnlcbckaaQg6
import Derived.Test.YthfhhnlnlcbckaaQg7
import Derived.Test.YthfhhnlnlcbckaaQg8
import Derived.Test.YthfhhnlnlcbckaaQg9
