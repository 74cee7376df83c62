/- Layer 4 (config): windows and channels as the kit's printer writes them (its text for ConfigSame). -/
import Derived.Test.YtehcgojcmcahnaaDoorCzR
import Derived.Test.YtehcgojcmcahnaaDoorPConfigSamex0
