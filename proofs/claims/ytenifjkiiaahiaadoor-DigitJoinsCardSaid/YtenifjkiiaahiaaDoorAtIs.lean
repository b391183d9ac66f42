/- Where the contract of figurehead/digit.Is lies. -/
import Derived.Test.YtenifjkiiaahiaaDoorPrint5
