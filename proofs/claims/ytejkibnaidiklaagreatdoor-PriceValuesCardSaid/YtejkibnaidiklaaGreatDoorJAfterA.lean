/- AfterP -/
import Derived.Test.YtejkibnaidiklaaGreatDoorJViewA

