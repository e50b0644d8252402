/-.-/
import Derived.Test.YtonnphbfclaigaaGreatDoorProg
set_option linter.all false
