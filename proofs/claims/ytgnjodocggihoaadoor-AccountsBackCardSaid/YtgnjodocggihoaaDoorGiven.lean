/- The contracts that the printed laws take as given. -/
import Derived.Test.YtgnjodocggihoaaDoorAAre
import Derived.Test.YtgnjodocggihoaaDoorMParse
