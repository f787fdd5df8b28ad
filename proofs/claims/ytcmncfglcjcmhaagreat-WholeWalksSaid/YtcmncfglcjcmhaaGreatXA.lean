/- Texts that belong together, joined: TextAll. No conditions. -/
import Derived.Test.YtcmncfglcjcmhaaGreatX1
import Derived.Test.YtcmncfglcjcmhaaGreatX2
import Derived.Test.YtcmncfglcjcmhaaGreatX3
import Derived.Test.YtcmncfglcjcmhaaGreatX4
import Derived.Test.YtcmncfglcjcmhaaGreatX5
import Derived.Test.YtcmncfglcjcmhaaGreatX6
import Derived.Test.YtcmncfglcjcmhaaGreatX7
import Derived.Test.YtcmncfglcjcmhaaGreatX8
import Derived.Test.YtcmncfglcjcmhaaGreatX9
import Derived.Test.YtcmncfglcjcmhaaGreatX10
import Derived.Test.YtcmncfglcjcmhaaGreatX11
import Derived.Test.YtcmncfglcjcmhaaGreatX12
import Derived.Test.YtcmncfglcjcmhaaGreatX13
import Derived.Test.YtcmncfglcjcmhaaGreatX14
import Derived.Test.YtcmncfglcjcmhaaGreatX15
import Derived.Test.YtcmncfglcjcmhaaGreatX16
import Derived.Test.YtcmncfglcjcmhaaGreatX17
import Derived.Test.YtcmncfglcjcmhaaGreatX18
import Derived.Test.YtcmncfglcjcmhaaGreatX19
import Derived.Test.YtcmncfglcjcmhaaGreatX20
import Derived.Test.YtcmncfglcjcmhaaGreatX21
/- All typed texts. -/
