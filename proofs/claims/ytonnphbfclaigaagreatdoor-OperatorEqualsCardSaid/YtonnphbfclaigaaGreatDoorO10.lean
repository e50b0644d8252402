/- The program's form. -/
import Derived.Test.YtonnphbfclaigaaGreatDoorProg
set_option linter.all false

