/- Where the contract of figurehead/token.row lies. -/
import Derived.Test.YteiifaijhbcjcaaDoorPrint4
