/- All of the printed functions that are shared. -/
import Derived.Test.YteholdifeilkkaaG0
