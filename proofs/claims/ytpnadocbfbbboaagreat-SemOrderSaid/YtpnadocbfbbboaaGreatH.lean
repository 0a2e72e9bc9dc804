/-
  SemMore, SemInput.
-/
import Derived.Test.YtpnadocbfbbboaaGreatG
import Derived.Test.YtpnadocbfbbboaaGreatK

set_option maxRecDepth 100000
set_option maxHeartbeats 8000000
namespace E11
open Ax Go Code11 V7 Par Chk Run K9 S9 N7 U7
end E11
