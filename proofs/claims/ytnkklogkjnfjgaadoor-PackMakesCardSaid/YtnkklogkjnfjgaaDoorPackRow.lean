/- What the rows of the laws on packs need. -/
import Derived.Test.YtnkklogkjnfjgaaDoorPackLaw1
import Derived.Test.YtnkklogkjnfjgaaDoorPackLaw2
import Derived.Test.YtnkklogkjnfjgaaDoorOpenB
