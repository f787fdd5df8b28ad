/- Texts that belong together, joined: TextAll. No conditions. -/
import Derived.Test.YtnmgjpcooncjlaaGreatX1
import Derived.Test.YtnmgjpcooncjlaaGreatX2
import Derived.Test.YtnmgjpcooncjlaaGreatX3
import Derived.Test.YtnmgjpcooncjlaaGreatX4
import Derived.Test.YtnmgjpcooncjlaaGreatX5
import Derived.Test.YtnmgjpcooncjlaaGreatX6
import Derived.Test.YtnmgjpcooncjlaaGreatX7
import Derived.Test.YtnmgjpcooncjlaaGreatX8
import Derived.Test.YtnmgjpcooncjlaaGreatX9
import Derived.Test.YtnmgjpcooncjlaaGreatX10
import Derived.Test.YtnmgjpcooncjlaaGreatX11
import Derived.Test.YtnmgjpcooncjlaaGreatX12
import Derived.Test.YtnmgjpcooncjlaaGreatX13
import Derived.Test.YtnmgjpcooncjlaaGreatX14
/- All typed texts. -/
