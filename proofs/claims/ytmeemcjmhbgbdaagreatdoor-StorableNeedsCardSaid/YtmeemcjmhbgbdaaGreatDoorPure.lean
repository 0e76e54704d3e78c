/- A part of the proof of laws of the seat: written by program over the translation. -/
import Derived.Test.YtmeemcjmhbgbdaaGreatDoorPure2
