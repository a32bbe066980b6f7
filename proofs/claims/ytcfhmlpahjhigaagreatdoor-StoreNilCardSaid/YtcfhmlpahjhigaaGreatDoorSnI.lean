/- slices.Insert, each call run without room and with room. -/
import Derived.Test.YtcfhmlpahjhigaaGreatDoorSnP
namespace Go.AI.Sn
theorem ifine0 : i0.fine = true := by kernel_rfl
set_option maxRecDepth 100000 in
theorem irunA0 : i0.a.runs pt (smWith base [] []) 30 273 = true := by kernel_rfl
set_option maxRecDepth 100000 in
theorem irunB0 (d : Nat) : (i0.r d).ends pt (smWith base [] []) 30 273 = ((i0.r d).res, true) := by kernel_rfl
theorem ifine1 : i1.fine = true := by kernel_rfl
set_option maxRecDepth 100000 in
theorem irunA1 : i1.a.runs pt (smWith base [] []) 30 273 = true := by kernel_rfl
set_option maxRecDepth 100000 in
theorem irunB1 (d : Nat) : (i1.r d).ends pt (smWith base [] []) 30 273 = ((i1.r d).res, true) := by kernel_rfl
theorem ifine2 : i2.fine = true := by kernel_rfl
set_option maxRecDepth 100000 in
theorem irunA2 : i2.a.runs pt (smWith base [] []) 30 273 = true := by kernel_rfl
set_option maxRecDepth 100000 in
theorem irunB2 (d : Nat) : (i2.r d).ends pt (smWith base [] []) 30 273 = ((i2.r d).res, true) := by kernel_rfl
theorem ifine3 : i3.fine = true := by kernel_rfl
set_option maxRecDepth 100000 in
theorem irunA3 : i3.a.runs pt (smWith base [] []) 30 273 = true := by kernel_rfl
set_option maxRecDepth 100000 in
theorem irunB3 (d : Nat) : (i3.r d).ends pt (smWith base [] []) 30 273 = ((i3.r d).res, true) := by kernel_rfl
theorem ifine4 : i4.fine = true := by kernel_rfl
set_option maxRecDepth 100000 in
theorem irunA4 : i4.a.runs pt (smWith base [] []) 30 273 = true := by kernel_rfl
set_option maxRecDepth 100000 in
theorem irunB4 (d : Nat) : (i4.r d).ends pt (smWith base [] []) 30 273 = ((i4.r d).res, true) := by kernel_rfl
theorem ifine5 : i5.fine = true := by kernel_rfl
set_option maxRecDepth 100000 in
theorem irunA5 : i5.a.runs pt (smWith base [] []) 30 273 = true := by kernel_rfl
set_option maxRecDepth 100000 in
theorem irunB5 (d : Nat) : (i5.r d).ends pt (smWith base [] []) 30 273 = ((i5.r d).res, true) := by kernel_rfl
theorem ifine6 : i6.fine = true := by kernel_rfl
set_option maxRecDepth 100000 in
theorem irunA6 : i6.a.runs pt (smWith base [] []) 30 273 = true := by kernel_rfl
set_option maxRecDepth 100000 in
theorem irunB6 (d : Nat) : (i6.r d).ends pt (smWith base [] []) 30 273 = ((i6.r d).res, true) := by kernel_rfl
theorem ifine7 : i7.fine = true := by kernel_rfl
set_option maxRecDepth 100000 in
theorem irunA7 : i7.a.runs pt (smWith base [] []) 30 273 = true := by kernel_rfl
set_option maxRecDepth 100000 in
theorem irunB7 (d : Nat) : (i7.r d).ends pt (smWith base [] []) 30 273 = ((i7.r d).res, true) := by kernel_rfl
theorem ifine8 : i8.fine = true := by kernel_rfl
set_option maxRecDepth 100000 in
theorem irunA8 : i8.a.runs pt (smWith base [] []) 30 273 = true := by kernel_rfl
set_option maxRecDepth 100000 in
theorem irunB8 (d : Nat) : (i8.r d).ends pt (smWith base [] []) 30 273 = ((i8.r d).res, true) := by kernel_rfl
theorem ifine9 : i9.fine = true := by kernel_rfl
set_option maxRecDepth 100000 in
theorem irunA9 : i9.a.runs pt (smWith base [] []) 30 273 = true := by kernel_rfl
set_option maxRecDepth 100000 in
theorem irunB9 (d : Nat) : (i9.r d).ends pt (smWith base [] []) 30 273 = ((i9.r d).res, true) := by kernel_rfl
end Go.AI.Sn
