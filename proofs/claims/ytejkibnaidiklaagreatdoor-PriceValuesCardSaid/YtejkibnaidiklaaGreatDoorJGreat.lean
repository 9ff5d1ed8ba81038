/- Great -/
import Derived.Test.YtejkibnaidiklaaGreatDoorJFactC
import Derived.Test.YtejkibnaidiklaaGreatDoorJLog

