/- The small library for walks, all of it. -/
import Derived.Test.YtfhlbfalgdipiaaDoorSlZ
