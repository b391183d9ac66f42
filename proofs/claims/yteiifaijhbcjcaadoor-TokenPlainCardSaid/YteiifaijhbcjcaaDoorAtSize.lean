/- Where the contract of figurehead/token.size lies. -/
import Derived.Test.YteiifaijhbcjcaaDoorPrint3
