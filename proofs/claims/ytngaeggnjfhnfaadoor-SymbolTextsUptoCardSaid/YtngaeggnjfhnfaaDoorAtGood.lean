/- Where the contract of figurehead/digit.Good lies. -/
import Derived.Test.YtngaeggnjfhnfaaDoorPrint1
