/- The law's pure statement stands in PureLchC. -/
import Derived.Test.YtcnabolainmaeaaPureLchC
