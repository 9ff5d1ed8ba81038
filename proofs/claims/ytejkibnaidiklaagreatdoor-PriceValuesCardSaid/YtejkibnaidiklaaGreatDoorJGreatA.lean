/- GreatA GreatB GreatC -/
import Derived.Test.YtejkibnaidiklaaGreatDoorJFactC
import Derived.Test.YtejkibnaidiklaaGreatDoorJLog

