/- Great2 GreatLog -/
import Derived.Test.YtejkibnaidiklaaGreatDoorJGreatA
import Derived.Test.YtejkibnaidiklaaGreatDoorJGreat
import Derived.Laws.Rows

