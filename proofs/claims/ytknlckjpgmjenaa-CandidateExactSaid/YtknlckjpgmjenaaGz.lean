/- All of the printed functions that are shared. -/
import Derived.Test.YtknlckjpgmjenaaG2
