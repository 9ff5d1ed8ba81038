/- Sorted -/
import Derived.Test.YtbcebibkpfklnaaGreatDoorJOpen
import Derived.BigQuiet

