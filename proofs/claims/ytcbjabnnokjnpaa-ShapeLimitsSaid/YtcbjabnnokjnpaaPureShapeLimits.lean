/- ShapeLimits of layer 16 holds for every input; no condition. -/
import Derived.Test.YtcbjabnnokjnpaaPureLim
