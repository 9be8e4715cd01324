/- The contracts of keys.Key, keys.Of and keys.Parse, together. -/
import Derived.Test.YtfncbcbhhddnpaaKKey
import Derived.Test.YtfncbcbhhddnpaaKOf
import Derived.Test.YtfncbcbhhddnpaaKParse
