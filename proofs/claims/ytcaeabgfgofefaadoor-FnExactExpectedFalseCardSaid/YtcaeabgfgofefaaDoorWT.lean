/- Proved here: what the table of types of the program says. Printed by program. -/
import Derived.Test.YtcaeabgfgofefaaDoorPB
import Derived.Test.YtcaeabgfgofefaaDoorVR
import Derived.Test.YtcaeabgfgofefaaDoorProg
set_option linter.unusedVariables false
set_option linter.unusedSimpArgs false
set_option maxRecDepth 4000
namespace Go.Proofs.YtcaeabgfgofefaaDoor.VL
open Go
theorem fomo : Tryd.prog.follows .mixedOrders = true := by kernel_rfl
theorem ag100 : aggT Tryd.prog 100 = some true := by kernel_rfl
theorem ag104 : aggT Tryd.prog 104 = some false := by kernel_rfl
theorem ag121 : aggT Tryd.prog 121 = some false := by kernel_rfl
theorem ag127 : aggT Tryd.prog 127 = some false := by kernel_rfl
theorem ag129 : aggT Tryd.prog 129 = some false := by kernel_rfl
theorem ag139 : aggT Tryd.prog 139 = some false := by kernel_rfl
theorem ag141 : aggT Tryd.prog 141 = some false := by kernel_rfl
theorem ag155 : aggT Tryd.prog 155 = some false := by kernel_rfl
theorem ag168 : aggT Tryd.prog 168 = some false := by kernel_rfl
theorem ag173 : aggT Tryd.prog 173 = some true := by kernel_rfl
theorem ag176 : aggT Tryd.prog 176 = some false := by kernel_rfl
theorem ag177 : aggT Tryd.prog 177 = some false := by kernel_rfl
theorem ag180 : aggT Tryd.prog 180 = some true := by kernel_rfl
theorem ag183 : aggT Tryd.prog 183 = some true := by kernel_rfl
theorem ag191 : aggT Tryd.prog 191 = some false := by kernel_rfl
theorem ag2 : aggT Tryd.prog 2 = some false := by kernel_rfl
theorem ag203 : aggT Tryd.prog 203 = some true := by kernel_rfl
theorem ag207 : aggT Tryd.prog 207 = some false := by kernel_rfl
theorem ag21 : aggT Tryd.prog 21 = some false := by kernel_rfl
theorem ag216 : aggT Tryd.prog 216 = some true := by kernel_rfl
theorem ag218 : aggT Tryd.prog 218 = some true := by kernel_rfl
theorem ag22 : aggT Tryd.prog 22 = some false := by kernel_rfl
theorem ag220 : aggT Tryd.prog 220 = some true := by kernel_rfl
theorem ag221 : aggT Tryd.prog 221 = some true := by kernel_rfl
theorem ag23 : aggT Tryd.prog 23 = some true := by kernel_rfl
theorem ag25 : aggT Tryd.prog 25 = some true := by kernel_rfl
theorem ag29 : aggT Tryd.prog 29 = some true := by kernel_rfl
theorem ag3 : aggT Tryd.prog 3 = some false := by kernel_rfl
theorem ag31 : aggT Tryd.prog 31 = some true := by kernel_rfl
theorem ag34 : aggT Tryd.prog 34 = some false := by kernel_rfl
theorem ag38 : aggT Tryd.prog 38 = some false := by kernel_rfl
theorem ag4 : aggT Tryd.prog 4 = some false := by kernel_rfl
theorem ag5 : aggT Tryd.prog 5 = some false := by kernel_rfl
theorem ag50 : aggT Tryd.prog 50 = some false := by kernel_rfl
theorem ag51 : aggT Tryd.prog 51 = some false := by kernel_rfl
theorem ag53 : aggT Tryd.prog 53 = some true := by kernel_rfl
theorem ag56 : aggT Tryd.prog 56 = some true := by kernel_rfl
theorem ag60 : aggT Tryd.prog 60 = some true := by kernel_rfl
theorem ag61 : aggT Tryd.prog 61 = some false := by kernel_rfl
theorem ag62 : aggT Tryd.prog 62 = some false := by kernel_rfl
theorem ag64 : aggT Tryd.prog 64 = some true := by kernel_rfl
theorem ag68 : aggT Tryd.prog 68 = some true := by kernel_rfl
theorem ag69 : aggT Tryd.prog 69 = some false := by kernel_rfl
theorem ag71 : aggT Tryd.prog 71 = some true := by kernel_rfl
theorem ag77 : aggT Tryd.prog 77 = some true := by kernel_rfl
theorem ag78 : aggT Tryd.prog 78 = some false := by kernel_rfl
theorem ag81 : aggT Tryd.prog 81 = some true := by kernel_rfl
theorem ag9 : aggT Tryd.prog 9 = some false := by kernel_rfl
theorem ag96 : aggT Tryd.prog 96 = some true := by kernel_rfl
theorem ar173 : arT Tryd.prog 173 = some (4, 51) := by kernel_rfl
theorem ar203 : arT Tryd.prog 203 = some (256, 4) := by kernel_rfl
theorem ar216 : arT Tryd.prog 216 = some (10, 61) := by kernel_rfl
theorem ar218 : arT Tryd.prog 218 = some (256, 5) := by kernel_rfl
theorem ar221 : arT Tryd.prog 221 = some (16, 220) := by kernel_rfl
theorem ar23 : arT Tryd.prog 23 = some (2, 22) := by kernel_rfl
theorem ar29 : arT Tryd.prog 29 = some (2, 22) := by kernel_rfl
theorem by100 : bytesT Tryd.prog 100 = some 48 := by kernel_rfl
theorem by104 : bytesT Tryd.prog 104 = some 8 := by kernel_rfl
theorem by121 : bytesT Tryd.prog 121 = some 8 := by kernel_rfl
theorem by127 : bytesT Tryd.prog 127 = some 8 := by kernel_rfl
theorem by129 : bytesT Tryd.prog 129 = some 8 := by kernel_rfl
theorem by139 : bytesT Tryd.prog 139 = some 24 := by kernel_rfl
theorem by141 : bytesT Tryd.prog 141 = some 8 := by kernel_rfl
theorem by155 : bytesT Tryd.prog 155 = some 8 := by kernel_rfl
theorem by168 : bytesT Tryd.prog 168 = some 24 := by kernel_rfl
theorem by173 : bytesT Tryd.prog 173 = some 8 := by kernel_rfl
theorem by176 : bytesT Tryd.prog 176 = some 24 := by kernel_rfl
theorem by177 : bytesT Tryd.prog 177 = some 24 := by kernel_rfl
theorem by180 : bytesT Tryd.prog 180 = some 16 := by kernel_rfl
theorem by183 : bytesT Tryd.prog 183 = some 16 := by kernel_rfl
theorem by191 : bytesT Tryd.prog 191 = some 24 := by kernel_rfl
theorem by2 : bytesT Tryd.prog 2 = some 8 := by kernel_rfl
theorem by203 : bytesT Tryd.prog 203 = some 256 := by kernel_rfl
theorem by207 : bytesT Tryd.prog 207 = some 8 := by kernel_rfl
theorem by21 : bytesT Tryd.prog 21 = some 4 := by kernel_rfl
theorem by216 : bytesT Tryd.prog 216 = some 240 := by kernel_rfl
theorem by218 : bytesT Tryd.prog 218 = some 256 := by kernel_rfl
theorem by22 : bytesT Tryd.prog 22 = some 8 := by kernel_rfl
theorem by220 : bytesT Tryd.prog 220 = some 2 := by kernel_rfl
theorem by221 : bytesT Tryd.prog 221 = some 32 := by kernel_rfl
theorem by23 : bytesT Tryd.prog 23 = some 16 := by kernel_rfl
theorem by25 : bytesT Tryd.prog 25 = some 32 := by kernel_rfl
theorem by29 : bytesT Tryd.prog 29 = some 16 := by kernel_rfl
theorem by3 : bytesT Tryd.prog 3 = some 8 := by kernel_rfl
theorem by31 : bytesT Tryd.prog 31 = some 32 := by kernel_rfl
theorem by34 : bytesT Tryd.prog 34 = some 24 := by kernel_rfl
theorem by38 : bytesT Tryd.prog 38 = some 24 := by kernel_rfl
theorem by4 : bytesT Tryd.prog 4 = some 1 := by kernel_rfl
theorem by5 : bytesT Tryd.prog 5 = some 1 := by kernel_rfl
theorem by50 : bytesT Tryd.prog 50 = some 1 := by kernel_rfl
theorem by51 : bytesT Tryd.prog 51 = some 2 := by kernel_rfl
theorem by53 : bytesT Tryd.prog 53 = some 24 := by kernel_rfl
theorem by56 : bytesT Tryd.prog 56 = some 24 := by kernel_rfl
theorem by60 : bytesT Tryd.prog 60 = some 32 := by kernel_rfl
theorem by61 : bytesT Tryd.prog 61 = some 24 := by kernel_rfl
theorem by62 : bytesT Tryd.prog 62 = some 24 := by kernel_rfl
theorem by64 : bytesT Tryd.prog 64 = some 80 := by kernel_rfl
theorem by68 : bytesT Tryd.prog 68 = some 32 := by kernel_rfl
theorem by69 : bytesT Tryd.prog 69 = some 24 := by kernel_rfl
theorem by71 : bytesT Tryd.prog 71 = some 80 := by kernel_rfl
theorem by77 : bytesT Tryd.prog 77 = some 6 := by kernel_rfl
theorem by78 : bytesT Tryd.prog 78 = some 24 := by kernel_rfl
theorem by81 : bytesT Tryd.prog 81 = some 6 := by kernel_rfl
theorem by9 : bytesT Tryd.prog 9 = some 16 := by kernel_rfl
theorem by96 : bytesT Tryd.prog 96 = some 48 := by kernel_rfl
theorem eg100 : Program.eqGuardType Tryd.prog (Program.depth Tryd.prog) 100 = false := by kernel_rfl
theorem eg173 : Program.eqGuardType Tryd.prog (Program.depth Tryd.prog) 173 = false := by kernel_rfl
theorem eg180 : Program.eqGuardType Tryd.prog (Program.depth Tryd.prog) 180 = false := by kernel_rfl
theorem eg183 : Program.eqGuardType Tryd.prog (Program.depth Tryd.prog) 183 = false := by kernel_rfl
theorem eg203 : Program.eqGuardType Tryd.prog (Program.depth Tryd.prog) 203 = false := by kernel_rfl
theorem eg216 : Program.eqGuardType Tryd.prog (Program.depth Tryd.prog) 216 = false := by kernel_rfl
theorem eg218 : Program.eqGuardType Tryd.prog (Program.depth Tryd.prog) 218 = false := by kernel_rfl
theorem eg220 : Program.eqGuardType Tryd.prog (Program.depth Tryd.prog) 220 = false := by kernel_rfl
theorem eg221 : Program.eqGuardType Tryd.prog (Program.depth Tryd.prog) 221 = false := by kernel_rfl
theorem eg23 : Program.eqGuardType Tryd.prog (Program.depth Tryd.prog) 23 = false := by kernel_rfl
theorem eg25 : Program.eqGuardType Tryd.prog (Program.depth Tryd.prog) 25 = false := by kernel_rfl
theorem eg29 : Program.eqGuardType Tryd.prog (Program.depth Tryd.prog) 29 = false := by kernel_rfl
theorem eg31 : Program.eqGuardType Tryd.prog (Program.depth Tryd.prog) 31 = false := by kernel_rfl
theorem eg53 : Program.eqGuardType Tryd.prog (Program.depth Tryd.prog) 53 = false := by kernel_rfl
theorem eg56 : Program.eqGuardType Tryd.prog (Program.depth Tryd.prog) 56 = false := by kernel_rfl
theorem eg60 : Program.eqGuardType Tryd.prog (Program.depth Tryd.prog) 60 = false := by kernel_rfl
theorem eg64 : Program.eqGuardType Tryd.prog (Program.depth Tryd.prog) 64 = false := by kernel_rfl
theorem eg68 : Program.eqGuardType Tryd.prog (Program.depth Tryd.prog) 68 = false := by kernel_rfl
theorem eg71 : Program.eqGuardType Tryd.prog (Program.depth Tryd.prog) 71 = false := by kernel_rfl
theorem eg77 : Program.eqGuardType Tryd.prog (Program.depth Tryd.prog) 77 = false := by kernel_rfl
theorem eg81 : Program.eqGuardType Tryd.prog (Program.depth Tryd.prog) 81 = false := by kernel_rfl
theorem eg96 : Program.eqGuardType Tryd.prog (Program.depth Tryd.prog) 96 = false := by kernel_rfl
theorem el139 : elT Tryd.prog 139 = some 9 := by kernel_rfl
theorem el168 : elT Tryd.prog 168 = some 56 := by kernel_rfl
theorem el176 : elT Tryd.prog 176 = some 3 := by kernel_rfl
theorem el177 : elT Tryd.prog 177 = some 4 := by kernel_rfl
theorem el191 : elT Tryd.prog 191 = some 5 := by kernel_rfl
theorem el34 : elT Tryd.prog 34 = some 25 := by kernel_rfl
theorem el38 : elT Tryd.prog 38 = some 31 := by kernel_rfl
theorem el61 : elT Tryd.prog 61 = some 2 := by kernel_rfl
theorem el62 : elT Tryd.prog 62 = some 183 := by kernel_rfl
theorem el69 : elT Tryd.prog 69 = some 180 := by kernel_rfl
theorem el78 : elT Tryd.prog 78 = some 139 := by kernel_rfl
theorem fd100_0 : fldT Tryd.prog 100 0 = some (50, 0) := by kernel_rfl
theorem fd100_1 : fldT Tryd.prog 100 1 = some (9, 1) := by kernel_rfl
theorem fd100_2 : fldT Tryd.prog 100 2 = some (51, 2) := by kernel_rfl
theorem fd100_3 : fldT Tryd.prog 100 3 = some (29, 3) := by kernel_rfl
theorem fd180_0 : fldT Tryd.prog 180 0 = some (2, 0) := by kernel_rfl
theorem fd180_1 : fldT Tryd.prog 180 1 = some (51, 1) := by kernel_rfl
theorem fd183_0 : fldT Tryd.prog 183 0 = some (2, 0) := by kernel_rfl
theorem fd183_1 : fldT Tryd.prog 183 1 = some (51, 1) := by kernel_rfl
theorem fd220_0 : fldT Tryd.prog 220 0 = some (5, 0) := by kernel_rfl
theorem fd220_1 : fldT Tryd.prog 220 1 = some (5, 1) := by kernel_rfl
theorem fd25_0 : fldT Tryd.prog 25 0 = some (9, 0) := by kernel_rfl
theorem fd25_1 : fldT Tryd.prog 25 1 = some (23, 1) := by kernel_rfl
theorem fd31_0 : fldT Tryd.prog 31 0 = some (9, 0) := by kernel_rfl
theorem fd31_1 : fldT Tryd.prog 31 1 = some (29, 1) := by kernel_rfl
theorem fd53_0 : fldT Tryd.prog 53 0 = some (9, 0) := by kernel_rfl
theorem fd53_1 : fldT Tryd.prog 53 1 = some (50, 1) := by kernel_rfl
theorem fd53_2 : fldT Tryd.prog 53 2 = some (51, 2) := by kernel_rfl
theorem fd53_3 : fldT Tryd.prog 53 3 = some (51, 3) := by kernel_rfl
theorem fd56_0 : fldT Tryd.prog 56 0 = some (9, 0) := by kernel_rfl
theorem fd56_1 : fldT Tryd.prog 56 1 = some (50, 1) := by kernel_rfl
theorem fd56_2 : fldT Tryd.prog 56 2 = some (51, 2) := by kernel_rfl
theorem fd56_3 : fldT Tryd.prog 56 3 = some (51, 3) := by kernel_rfl
theorem fd60_0 : fldT Tryd.prog 60 0 = some (23, 0) := by kernel_rfl
theorem fd60_1 : fldT Tryd.prog 60 1 = some (23, 2) := by kernel_rfl
theorem fd64_0 : fldT Tryd.prog 64 0 = some (60, 0) := by kernel_rfl
theorem fd64_1 : fldT Tryd.prog 64 1 = some (61, 4) := by kernel_rfl
theorem fd64_2 : fldT Tryd.prog 64 2 = some (62, 5) := by kernel_rfl
theorem fd68_0 : fldT Tryd.prog 68 0 = some (29, 0) := by kernel_rfl
theorem fd68_1 : fldT Tryd.prog 68 1 = some (29, 2) := by kernel_rfl
theorem fd71_0 : fldT Tryd.prog 71 0 = some (68, 0) := by kernel_rfl
theorem fd71_1 : fldT Tryd.prog 71 1 = some (61, 4) := by kernel_rfl
theorem fd71_2 : fldT Tryd.prog 71 2 = some (69, 5) := by kernel_rfl
theorem fd77_0 : fldT Tryd.prog 77 0 = some (51, 0) := by kernel_rfl
theorem fd77_1 : fldT Tryd.prog 77 1 = some (51, 1) := by kernel_rfl
theorem fd77_2 : fldT Tryd.prog 77 2 = some (51, 2) := by kernel_rfl
theorem fd81_0 : fldT Tryd.prog 81 0 = some (51, 0) := by kernel_rfl
theorem fd81_1 : fldT Tryd.prog 81 1 = some (51, 1) := by kernel_rfl
theorem fd81_2 : fldT Tryd.prog 81 2 = some (51, 2) := by kernel_rfl
theorem fd96_0 : fldT Tryd.prog 96 0 = some (50, 0) := by kernel_rfl
theorem fd96_1 : fldT Tryd.prog 96 1 = some (9, 1) := by kernel_rfl
theorem fd96_2 : fldT Tryd.prog 96 2 = some (51, 2) := by kernel_rfl
theorem fd96_3 : fldT Tryd.prog 96 3 = some (23, 3) := by kernel_rfl
theorem pl100 : plT Tryd.prog 100 = some [(0, 1), (1, 1), (2, 1), (3, 2)] := by kernel_rfl
theorem pl180 : plT Tryd.prog 180 = some [(0, 1), (1, 1)] := by kernel_rfl
theorem pl183 : plT Tryd.prog 183 = some [(0, 1), (1, 1)] := by kernel_rfl
theorem pl220 : plT Tryd.prog 220 = some [(0, 1), (1, 1)] := by kernel_rfl
theorem pl25 : plT Tryd.prog 25 = some [(0, 1), (1, 2)] := by kernel_rfl
theorem pl31 : plT Tryd.prog 31 = some [(0, 1), (1, 2)] := by kernel_rfl
theorem pl53 : plT Tryd.prog 53 = some [(0, 1), (1, 1), (2, 1), (3, 1)] := by kernel_rfl
theorem pl56 : plT Tryd.prog 56 = some [(0, 1), (1, 1), (2, 1), (3, 1)] := by kernel_rfl
theorem pl60 : plT Tryd.prog 60 = some [(0, 2), (2, 2)] := by kernel_rfl
theorem pl64 : plT Tryd.prog 64 = some [(0, 4), (4, 1), (5, 1)] := by kernel_rfl
theorem pl68 : plT Tryd.prog 68 = some [(0, 2), (2, 2)] := by kernel_rfl
theorem pl71 : plT Tryd.prog 71 = some [(0, 4), (4, 1), (5, 1)] := by kernel_rfl
theorem pl77 : plT Tryd.prog 77 = some [(0, 1), (1, 1), (2, 1)] := by kernel_rfl
theorem pl81 : plT Tryd.prog 81 = some [(0, 1), (1, 1), (2, 1)] := by kernel_rfl
theorem pl96 : plT Tryd.prog 96 = some [(0, 1), (1, 1), (2, 1), (3, 2)] := by kernel_rfl
theorem sz100 : sizeT Tryd.prog 100 = some 5 := by kernel_rfl
theorem sz104 : sizeT Tryd.prog 104 = some 1 := by kernel_rfl
theorem sz121 : sizeT Tryd.prog 121 = some 1 := by kernel_rfl
theorem sz127 : sizeT Tryd.prog 127 = some 1 := by kernel_rfl
theorem sz129 : sizeT Tryd.prog 129 = some 1 := by kernel_rfl
theorem sz139 : sizeT Tryd.prog 139 = some 1 := by kernel_rfl
theorem sz141 : sizeT Tryd.prog 141 = some 1 := by kernel_rfl
theorem sz155 : sizeT Tryd.prog 155 = some 1 := by kernel_rfl
theorem sz168 : sizeT Tryd.prog 168 = some 1 := by kernel_rfl
theorem sz173 : sizeT Tryd.prog 173 = some 4 := by kernel_rfl
theorem sz176 : sizeT Tryd.prog 176 = some 1 := by kernel_rfl
theorem sz177 : sizeT Tryd.prog 177 = some 1 := by kernel_rfl
theorem sz180 : sizeT Tryd.prog 180 = some 2 := by kernel_rfl
theorem sz183 : sizeT Tryd.prog 183 = some 2 := by kernel_rfl
theorem sz191 : sizeT Tryd.prog 191 = some 1 := by kernel_rfl
theorem sz2 : sizeT Tryd.prog 2 = some 1 := by kernel_rfl
theorem sz203 : sizeT Tryd.prog 203 = some 256 := by kernel_rfl
theorem sz207 : sizeT Tryd.prog 207 = some 1 := by kernel_rfl
theorem sz21 : sizeT Tryd.prog 21 = some 1 := by kernel_rfl
theorem sz216 : sizeT Tryd.prog 216 = some 10 := by kernel_rfl
theorem sz218 : sizeT Tryd.prog 218 = some 256 := by kernel_rfl
theorem sz22 : sizeT Tryd.prog 22 = some 1 := by kernel_rfl
theorem sz220 : sizeT Tryd.prog 220 = some 2 := by kernel_rfl
theorem sz221 : sizeT Tryd.prog 221 = some 32 := by kernel_rfl
theorem sz23 : sizeT Tryd.prog 23 = some 2 := by kernel_rfl
theorem sz25 : sizeT Tryd.prog 25 = some 3 := by kernel_rfl
theorem sz29 : sizeT Tryd.prog 29 = some 2 := by kernel_rfl
theorem sz3 : sizeT Tryd.prog 3 = some 1 := by kernel_rfl
theorem sz31 : sizeT Tryd.prog 31 = some 3 := by kernel_rfl
theorem sz34 : sizeT Tryd.prog 34 = some 1 := by kernel_rfl
theorem sz38 : sizeT Tryd.prog 38 = some 1 := by kernel_rfl
theorem sz4 : sizeT Tryd.prog 4 = some 1 := by kernel_rfl
theorem sz5 : sizeT Tryd.prog 5 = some 1 := by kernel_rfl
theorem sz50 : sizeT Tryd.prog 50 = some 1 := by kernel_rfl
theorem sz51 : sizeT Tryd.prog 51 = some 1 := by kernel_rfl
theorem sz53 : sizeT Tryd.prog 53 = some 4 := by kernel_rfl
theorem sz56 : sizeT Tryd.prog 56 = some 4 := by kernel_rfl
theorem sz60 : sizeT Tryd.prog 60 = some 4 := by kernel_rfl
theorem sz61 : sizeT Tryd.prog 61 = some 1 := by kernel_rfl
theorem sz62 : sizeT Tryd.prog 62 = some 1 := by kernel_rfl
theorem sz64 : sizeT Tryd.prog 64 = some 6 := by kernel_rfl
theorem sz68 : sizeT Tryd.prog 68 = some 4 := by kernel_rfl
theorem sz69 : sizeT Tryd.prog 69 = some 1 := by kernel_rfl
theorem sz71 : sizeT Tryd.prog 71 = some 6 := by kernel_rfl
theorem sz77 : sizeT Tryd.prog 77 = some 3 := by kernel_rfl
theorem sz78 : sizeT Tryd.prog 78 = some 1 := by kernel_rfl
theorem sz81 : sizeT Tryd.prog 81 = some 3 := by kernel_rfl
theorem sz9 : sizeT Tryd.prog 9 = some 1 := by kernel_rfl
theorem sz96 : sizeT Tryd.prog 96 = some 5 := by kernel_rfl
theorem us100 : (Tryd.prog.underlying 100).isSome = true := by kernel_rfl
theorem us104 : (Tryd.prog.underlying 104).isSome = true := by kernel_rfl
theorem us121 : (Tryd.prog.underlying 121).isSome = true := by kernel_rfl
theorem us127 : (Tryd.prog.underlying 127).isSome = true := by kernel_rfl
theorem us129 : (Tryd.prog.underlying 129).isSome = true := by kernel_rfl
theorem us139 : (Tryd.prog.underlying 139).isSome = true := by kernel_rfl
theorem us141 : (Tryd.prog.underlying 141).isSome = true := by kernel_rfl
theorem us155 : (Tryd.prog.underlying 155).isSome = true := by kernel_rfl
theorem us168 : (Tryd.prog.underlying 168).isSome = true := by kernel_rfl
theorem us173 : (Tryd.prog.underlying 173).isSome = true := by kernel_rfl
theorem us176 : (Tryd.prog.underlying 176).isSome = true := by kernel_rfl
theorem us177 : (Tryd.prog.underlying 177).isSome = true := by kernel_rfl
theorem us180 : (Tryd.prog.underlying 180).isSome = true := by kernel_rfl
theorem us183 : (Tryd.prog.underlying 183).isSome = true := by kernel_rfl
theorem us191 : (Tryd.prog.underlying 191).isSome = true := by kernel_rfl
theorem us2 : (Tryd.prog.underlying 2).isSome = true := by kernel_rfl
theorem us203 : (Tryd.prog.underlying 203).isSome = true := by kernel_rfl
theorem us207 : (Tryd.prog.underlying 207).isSome = true := by kernel_rfl
theorem us21 : (Tryd.prog.underlying 21).isSome = true := by kernel_rfl
theorem us216 : (Tryd.prog.underlying 216).isSome = true := by kernel_rfl
theorem us218 : (Tryd.prog.underlying 218).isSome = true := by kernel_rfl
theorem us22 : (Tryd.prog.underlying 22).isSome = true := by kernel_rfl
theorem us220 : (Tryd.prog.underlying 220).isSome = true := by kernel_rfl
theorem us221 : (Tryd.prog.underlying 221).isSome = true := by kernel_rfl
theorem us23 : (Tryd.prog.underlying 23).isSome = true := by kernel_rfl
theorem us25 : (Tryd.prog.underlying 25).isSome = true := by kernel_rfl
theorem us29 : (Tryd.prog.underlying 29).isSome = true := by kernel_rfl
theorem us3 : (Tryd.prog.underlying 3).isSome = true := by kernel_rfl
theorem us31 : (Tryd.prog.underlying 31).isSome = true := by kernel_rfl
theorem us34 : (Tryd.prog.underlying 34).isSome = true := by kernel_rfl
theorem us38 : (Tryd.prog.underlying 38).isSome = true := by kernel_rfl
theorem us4 : (Tryd.prog.underlying 4).isSome = true := by kernel_rfl
theorem us5 : (Tryd.prog.underlying 5).isSome = true := by kernel_rfl
theorem us50 : (Tryd.prog.underlying 50).isSome = true := by kernel_rfl
theorem us51 : (Tryd.prog.underlying 51).isSome = true := by kernel_rfl
theorem us53 : (Tryd.prog.underlying 53).isSome = true := by kernel_rfl
theorem us56 : (Tryd.prog.underlying 56).isSome = true := by kernel_rfl
theorem us60 : (Tryd.prog.underlying 60).isSome = true := by kernel_rfl
theorem us61 : (Tryd.prog.underlying 61).isSome = true := by kernel_rfl
theorem us62 : (Tryd.prog.underlying 62).isSome = true := by kernel_rfl
theorem us64 : (Tryd.prog.underlying 64).isSome = true := by kernel_rfl
theorem us68 : (Tryd.prog.underlying 68).isSome = true := by kernel_rfl
theorem us69 : (Tryd.prog.underlying 69).isSome = true := by kernel_rfl
theorem us71 : (Tryd.prog.underlying 71).isSome = true := by kernel_rfl
theorem us77 : (Tryd.prog.underlying 77).isSome = true := by kernel_rfl
theorem us78 : (Tryd.prog.underlying 78).isSome = true := by kernel_rfl
theorem us81 : (Tryd.prog.underlying 81).isSome = true := by kernel_rfl
theorem us9 : (Tryd.prog.underlying 9).isSome = true := by kernel_rfl
theorem us96 : (Tryd.prog.underlying 96).isSome = true := by kernel_rfl
theorem zk100 : ∀ s, ((Kd.pair (Kd.int .i8) (Kd.pair Kd.str (Kd.pair (Kd.int .i16) kMask))) : Kd (Int × ByteArray × Int × (BitVec 64 × BitVec 64))).rd s (Value.cl (.agg #[.int .i8 0, .string .empty, .int .i16 0, .int .u64 0, .int .u64 0])) ((0, .empty, 0, (0, 0))) := fun s => ⟨[.int .i8 0], [.string .empty, .int .i16 0, .int .u64 0, .int .u64 0], rfl, ⟨rfl, inRb_of rfl⟩, ⟨[.string .empty], [.int .i16 0, .int .u64 0, .int .u64 0], rfl, ⟨rfl, by decide⟩, ⟨[.int .i16 0], [.int .u64 0, .int .u64 0], rfl, ⟨rfl, inRb_of rfl⟩, ⟨[.int .u64 0], [.int .u64 0], rfl, rfl, rfl⟩⟩⟩⟩
theorem zk139 : ∀ s, ((Kd.slice Kd.str) : Kd (List (ByteArray))).rd s (Value.cl (.slice none 0 0)) ([]) := fun s => ⟨none, 0, rfl, Nat.le_refl _, by decide, fun h => absurd h (by decide)⟩
theorem zk168 : ∀ s, ((Kd.slice kField) : Kd (List (ByteArray × Int × Int × Int))).rd s (Value.cl (.slice none 0 0)) ([]) := fun s => ⟨none, 0, rfl, Nat.le_refl _, by decide, fun h => absurd h (by decide)⟩
theorem zk173 : ∀ s, ((Kd.arr 4 (Kd.int .i16)) : Kd (List (Int))).rd s (Value.cl (.agg (List.replicate 4 (.int .i16 0)).toArray)) ((List.replicate 4 0)) := zarr 4 (fun s => ⟨rfl, inRb_of rfl⟩)
theorem zk176 : ∀ s, ((Kd.slice (Kd.int .i64)) : Kd (List (Int))).rd s (Value.cl (.slice none 0 0)) ([]) := fun s => ⟨none, 0, rfl, Nat.le_refl _, by decide, fun h => absurd h (by decide)⟩
theorem zk177 : ∀ s, ((Kd.slice Kd.bool) : Kd (List (Bool))).rd s (Value.cl (.slice none 0 0)) ([]) := fun s => ⟨none, 0, rfl, Nat.le_refl _, by decide, fun h => absurd h (by decide)⟩
theorem zk180 : ∀ s, (kWit : Kd (Int × Int)).rd s (Value.cl (.agg #[.int .i64 0, .int .i16 0])) ((0, 0)) := fun s => ⟨[.int .i64 0], [.int .i16 0], rfl, ⟨rfl, inRb_of rfl⟩, ⟨rfl, inRb_of rfl⟩⟩
theorem zk183 : ∀ s, (kWit : Kd (Int × Int)).rd s (Value.cl (.agg #[.int .i64 0, .int .i16 0])) ((0, 0)) := fun s => ⟨[.int .i64 0], [.int .i16 0], rfl, ⟨rfl, inRb_of rfl⟩, ⟨rfl, inRb_of rfl⟩⟩
theorem zk191 : ∀ s, ((Kd.slice (Kd.int .u8)) : Kd (List (Int))).rd s (Value.cl (.slice none 0 0)) ([]) := fun s => ⟨none, 0, rfl, Nat.le_refl _, by decide, fun h => absurd h (by decide)⟩
theorem zk2 : ∀ s, ((Kd.int .i64) : Kd (Int)).rd s (Value.cl (.int .i64 0)) (0) := fun s => ⟨rfl, inRb_of rfl⟩
theorem zk203 : ∀ s, ((Kd.arr 256 Kd.bool) : Kd (List (Bool))).rd s (Value.cl (.agg (List.replicate 256 (.bool false)).toArray)) ((List.replicate 256 false)) := zarr 256 (fun s => rfl)
theorem zk21 : ∀ s, ((Kd.int .i32) : Kd (Int)).rd s (Value.cl (.int .i32 0)) (0) := fun s => ⟨rfl, inRb_of rfl⟩
theorem zk216 : ∀ s, ((Kd.arr 10 (Kd.slice (Kd.int .i64))) : Kd (List (List (Int)))).rd s (Value.cl (.agg (List.replicate 10 (.slice none 0 0)).toArray)) ((List.replicate 10 [])) := zarr 10 (fun s => ⟨none, 0, rfl, Nat.le_refl _, by decide, fun h => absurd h (by decide)⟩)
theorem zk218 : ∀ s, ((Kd.arr 256 (Kd.int .u8)) : Kd (List (Int))).rd s (Value.cl (.agg (List.replicate 256 (.int .u8 0)).toArray)) ((List.replicate 256 0)) := zarr 256 (fun s => ⟨rfl, inRb_of rfl⟩)
theorem zk22 : ∀ s, (Kd.u64 : Kd (BitVec 64)).rd s (Value.cl (.int .u64 0)) (0) := fun s => rfl
theorem zk220 : ∀ s, ((Kd.pair (Kd.int .u8) (Kd.int .u8)) : Kd (Int × Int)).rd s (Value.cl (.agg #[.int .u8 0, .int .u8 0])) ((0, 0)) := fun s => ⟨[.int .u8 0], [.int .u8 0], rfl, ⟨rfl, inRb_of rfl⟩, ⟨rfl, inRb_of rfl⟩⟩
theorem zk23 : ∀ s, (kMask : Kd (BitVec 64 × BitVec 64)).rd s (Value.cl (.agg #[.int .u64 0, .int .u64 0])) ((0, 0)) := fun s => ⟨[.int .u64 0], [.int .u64 0], rfl, rfl, rfl⟩
theorem zk25 : ∀ s, (kCard : Kd (ByteArray × (BitVec 64 × BitVec 64))).rd s (Value.cl (.agg #[.string .empty, .int .u64 0, .int .u64 0])) ((.empty, (0, 0))) := fun s => ⟨[.string .empty], [.int .u64 0, .int .u64 0], rfl, ⟨rfl, by decide⟩, ⟨[.int .u64 0], [.int .u64 0], rfl, rfl, rfl⟩⟩
theorem zk29 : ∀ s, (kMask : Kd (BitVec 64 × BitVec 64)).rd s (Value.cl (.agg #[.int .u64 0, .int .u64 0])) ((0, 0)) := fun s => ⟨[.int .u64 0], [.int .u64 0], rfl, rfl, rfl⟩
theorem zk3 : ∀ s, ((Kd.int .i64) : Kd (Int)).rd s (Value.cl (.int .i64 0)) (0) := fun s => ⟨rfl, inRb_of rfl⟩
theorem zk31 : ∀ s, (kCard : Kd (ByteArray × (BitVec 64 × BitVec 64))).rd s (Value.cl (.agg #[.string .empty, .int .u64 0, .int .u64 0])) ((.empty, (0, 0))) := fun s => ⟨[.string .empty], [.int .u64 0, .int .u64 0], rfl, ⟨rfl, by decide⟩, ⟨[.int .u64 0], [.int .u64 0], rfl, rfl, rfl⟩⟩
theorem zk34 : ∀ s, ((Kd.slice kCard) : Kd (List (ByteArray × (BitVec 64 × BitVec 64)))).rd s (Value.cl (.slice none 0 0)) ([]) := fun s => ⟨none, 0, rfl, Nat.le_refl _, by decide, fun h => absurd h (by decide)⟩
theorem zk38 : ∀ s, ((Kd.slice kCard) : Kd (List (ByteArray × (BitVec 64 × BitVec 64)))).rd s (Value.cl (.slice none 0 0)) ([]) := fun s => ⟨none, 0, rfl, Nat.le_refl _, by decide, fun h => absurd h (by decide)⟩
theorem zk4 : ∀ s, (Kd.bool : Kd (Bool)).rd s (Value.cl (.bool false)) (false) := fun s => rfl
theorem zk5 : ∀ s, ((Kd.int .u8) : Kd (Int)).rd s (Value.cl (.int .u8 0)) (0) := fun s => ⟨rfl, inRb_of rfl⟩
theorem zk50 : ∀ s, ((Kd.int .i8) : Kd (Int)).rd s (Value.cl (.int .i8 0)) (0) := fun s => ⟨rfl, inRb_of rfl⟩
theorem zk51 : ∀ s, ((Kd.int .i16) : Kd (Int)).rd s (Value.cl (.int .i16 0)) (0) := fun s => ⟨rfl, inRb_of rfl⟩
theorem zk53 : ∀ s, (kField : Kd (ByteArray × Int × Int × Int)).rd s (Value.cl (.agg #[.string .empty, .int .i8 0, .int .i16 0, .int .i16 0])) ((.empty, 0, 0, 0)) := fun s => ⟨[.string .empty], [.int .i8 0, .int .i16 0, .int .i16 0], rfl, ⟨rfl, by decide⟩, ⟨[.int .i8 0], [.int .i16 0, .int .i16 0], rfl, ⟨rfl, inRb_of rfl⟩, ⟨[.int .i16 0], [.int .i16 0], rfl, ⟨rfl, inRb_of rfl⟩, ⟨rfl, inRb_of rfl⟩⟩⟩⟩
theorem zk56 : ∀ s, (kField : Kd (ByteArray × Int × Int × Int)).rd s (Value.cl (.agg #[.string .empty, .int .i8 0, .int .i16 0, .int .i16 0])) ((.empty, 0, 0, 0)) := fun s => ⟨[.string .empty], [.int .i8 0, .int .i16 0, .int .i16 0], rfl, ⟨rfl, by decide⟩, ⟨[.int .i8 0], [.int .i16 0, .int .i16 0], rfl, ⟨rfl, inRb_of rfl⟩, ⟨[.int .i16 0], [.int .i16 0], rfl, ⟨rfl, inRb_of rfl⟩, ⟨rfl, inRb_of rfl⟩⟩⟩⟩
theorem zk60 : ∀ s, (kQuery : Kd ((BitVec 64 × BitVec 64) × (BitVec 64 × BitVec 64))).rd s (Value.cl (.agg #[.int .u64 0, .int .u64 0, .int .u64 0, .int .u64 0])) (((0, 0), (0, 0))) := fun s => ⟨[.int .u64 0, .int .u64 0], [.int .u64 0, .int .u64 0], rfl, ⟨[.int .u64 0], [.int .u64 0], rfl, rfl, rfl⟩, ⟨[.int .u64 0], [.int .u64 0], rfl, rfl, rfl⟩⟩
theorem zk61 : ∀ s, ((Kd.slice (Kd.int .i64)) : Kd (List (Int))).rd s (Value.cl (.slice none 0 0)) ([]) := fun s => ⟨none, 0, rfl, Nat.le_refl _, by decide, fun h => absurd h (by decide)⟩
theorem zk62 : ∀ s, ((Kd.slice kWit) : Kd (List (Int × Int))).rd s (Value.cl (.slice none 0 0)) ([]) := fun s => ⟨none, 0, rfl, Nat.le_refl _, by decide, fun h => absurd h (by decide)⟩
theorem zk64 : ∀ s, (kAns : Kd (((BitVec 64 × BitVec 64) × (BitVec 64 × BitVec 64)) × List (Int) × List (Int × Int))).rd s (Value.cl (.agg #[.int .u64 0, .int .u64 0, .int .u64 0, .int .u64 0, .slice none 0 0, .slice none 0 0])) ((((0, 0), (0, 0)), [], [])) := fun s => ⟨[.int .u64 0, .int .u64 0, .int .u64 0, .int .u64 0], [.slice none 0 0, .slice none 0 0], rfl, ⟨[.int .u64 0, .int .u64 0], [.int .u64 0, .int .u64 0], rfl, ⟨[.int .u64 0], [.int .u64 0], rfl, rfl, rfl⟩, ⟨[.int .u64 0], [.int .u64 0], rfl, rfl, rfl⟩⟩, ⟨[.slice none 0 0], [.slice none 0 0], rfl, ⟨none, 0, rfl, Nat.le_refl _, by decide, fun h => absurd h (by decide)⟩, ⟨none, 0, rfl, Nat.le_refl _, by decide, fun h => absurd h (by decide)⟩⟩⟩
theorem zk68 : ∀ s, (kQuery : Kd ((BitVec 64 × BitVec 64) × (BitVec 64 × BitVec 64))).rd s (Value.cl (.agg #[.int .u64 0, .int .u64 0, .int .u64 0, .int .u64 0])) (((0, 0), (0, 0))) := fun s => ⟨[.int .u64 0, .int .u64 0], [.int .u64 0, .int .u64 0], rfl, ⟨[.int .u64 0], [.int .u64 0], rfl, rfl, rfl⟩, ⟨[.int .u64 0], [.int .u64 0], rfl, rfl, rfl⟩⟩
theorem zk69 : ∀ s, ((Kd.slice kWit) : Kd (List (Int × Int))).rd s (Value.cl (.slice none 0 0)) ([]) := fun s => ⟨none, 0, rfl, Nat.le_refl _, by decide, fun h => absurd h (by decide)⟩
theorem zk71 : ∀ s, (kAns : Kd (((BitVec 64 × BitVec 64) × (BitVec 64 × BitVec 64)) × List (Int) × List (Int × Int))).rd s (Value.cl (.agg #[.int .u64 0, .int .u64 0, .int .u64 0, .int .u64 0, .slice none 0 0, .slice none 0 0])) ((((0, 0), (0, 0)), [], [])) := fun s => ⟨[.int .u64 0, .int .u64 0, .int .u64 0, .int .u64 0], [.slice none 0 0, .slice none 0 0], rfl, ⟨[.int .u64 0, .int .u64 0], [.int .u64 0, .int .u64 0], rfl, ⟨[.int .u64 0], [.int .u64 0], rfl, rfl, rfl⟩, ⟨[.int .u64 0], [.int .u64 0], rfl, rfl, rfl⟩⟩, ⟨[.slice none 0 0], [.slice none 0 0], rfl, ⟨none, 0, rfl, Nat.le_refl _, by decide, fun h => absurd h (by decide)⟩, ⟨none, 0, rfl, Nat.le_refl _, by decide, fun h => absurd h (by decide)⟩⟩⟩
theorem zk77 : ∀ s, (kMix : Kd (Int × Int × Int)).rd s (Value.cl (.agg #[.int .i16 0, .int .i16 0, .int .i16 0])) ((0, 0, 0)) := fun s => ⟨[.int .i16 0], [.int .i16 0, .int .i16 0], rfl, ⟨rfl, inRb_of rfl⟩, ⟨[.int .i16 0], [.int .i16 0], rfl, ⟨rfl, inRb_of rfl⟩, ⟨rfl, inRb_of rfl⟩⟩⟩
theorem zk78 : ∀ s, ((Kd.slice (Kd.slice Kd.str)) : Kd (List (List (ByteArray)))).rd s (Value.cl (.slice none 0 0)) ([]) := fun s => ⟨none, 0, rfl, Nat.le_refl _, by decide, fun h => absurd h (by decide)⟩
theorem zk81 : ∀ s, (kMix : Kd (Int × Int × Int)).rd s (Value.cl (.agg #[.int .i16 0, .int .i16 0, .int .i16 0])) ((0, 0, 0)) := fun s => ⟨[.int .i16 0], [.int .i16 0, .int .i16 0], rfl, ⟨rfl, inRb_of rfl⟩, ⟨[.int .i16 0], [.int .i16 0], rfl, ⟨rfl, inRb_of rfl⟩, ⟨rfl, inRb_of rfl⟩⟩⟩
theorem zk9 : ∀ s, (Kd.str : Kd (ByteArray)).rd s (Value.cl (.string .empty)) (.empty) := fun s => ⟨rfl, by decide⟩
theorem zk96 : ∀ s, ((Kd.pair (Kd.int .i8) (Kd.pair Kd.str (Kd.pair (Kd.int .i16) kMask))) : Kd (Int × ByteArray × Int × (BitVec 64 × BitVec 64))).rd s (Value.cl (.agg #[.int .i8 0, .string .empty, .int .i16 0, .int .u64 0, .int .u64 0])) ((0, .empty, 0, (0, 0))) := fun s => ⟨[.int .i8 0], [.string .empty, .int .i16 0, .int .u64 0, .int .u64 0], rfl, ⟨rfl, inRb_of rfl⟩, ⟨[.string .empty], [.int .i16 0, .int .u64 0, .int .u64 0], rfl, ⟨rfl, by decide⟩, ⟨[.int .i16 0], [.int .u64 0, .int .u64 0], rfl, ⟨rfl, inRb_of rfl⟩, ⟨[.int .u64 0], [.int .u64 0], rfl, rfl, rfl⟩⟩⟩⟩
theorem zr100 : zeroT Tryd.prog 100 = some (.agg #[.int .i8 0, .string .empty, .int .i16 0, .int .u64 0, .int .u64 0]) := by kernel_rfl
theorem zr139 : zeroT Tryd.prog 139 = some (.slice none 0 0) := by kernel_rfl
theorem zr168 : zeroT Tryd.prog 168 = some (.slice none 0 0) := by kernel_rfl
theorem zr173 : zeroT Tryd.prog 173 = some (.agg (List.replicate 4 (.int .i16 0)).toArray) := by kernel_rfl
theorem zr176 : zeroT Tryd.prog 176 = some (.slice none 0 0) := by kernel_rfl
theorem zr177 : zeroT Tryd.prog 177 = some (.slice none 0 0) := by kernel_rfl
theorem zr180 : zeroT Tryd.prog 180 = some (.agg #[.int .i64 0, .int .i16 0]) := by kernel_rfl
theorem zr183 : zeroT Tryd.prog 183 = some (.agg #[.int .i64 0, .int .i16 0]) := by kernel_rfl
theorem zr191 : zeroT Tryd.prog 191 = some (.slice none 0 0) := by kernel_rfl
theorem zr2 : zeroT Tryd.prog 2 = some (.int .i64 0) := by kernel_rfl
theorem zr203 : zeroT Tryd.prog 203 = some (.agg (List.replicate 256 (.bool false)).toArray) := by kernel_rfl
theorem zr21 : zeroT Tryd.prog 21 = some (.int .i32 0) := by kernel_rfl
theorem zr216 : zeroT Tryd.prog 216 = some (.agg (List.replicate 10 (.slice none 0 0)).toArray) := by kernel_rfl
theorem zr218 : zeroT Tryd.prog 218 = some (.agg (List.replicate 256 (.int .u8 0)).toArray) := by kernel_rfl
theorem zr22 : zeroT Tryd.prog 22 = some (.int .u64 0) := by kernel_rfl
theorem zr220 : zeroT Tryd.prog 220 = some (.agg #[.int .u8 0, .int .u8 0]) := by kernel_rfl
theorem zr23 : zeroT Tryd.prog 23 = some (.agg #[.int .u64 0, .int .u64 0]) := by kernel_rfl
theorem zr25 : zeroT Tryd.prog 25 = some (.agg #[.string .empty, .int .u64 0, .int .u64 0]) := by kernel_rfl
theorem zr29 : zeroT Tryd.prog 29 = some (.agg #[.int .u64 0, .int .u64 0]) := by kernel_rfl
theorem zr3 : zeroT Tryd.prog 3 = some (.int .i64 0) := by kernel_rfl
theorem zr31 : zeroT Tryd.prog 31 = some (.agg #[.string .empty, .int .u64 0, .int .u64 0]) := by kernel_rfl
theorem zr34 : zeroT Tryd.prog 34 = some (.slice none 0 0) := by kernel_rfl
theorem zr38 : zeroT Tryd.prog 38 = some (.slice none 0 0) := by kernel_rfl
theorem zr4 : zeroT Tryd.prog 4 = some (.bool false) := by kernel_rfl
theorem zr5 : zeroT Tryd.prog 5 = some (.int .u8 0) := by kernel_rfl
theorem zr50 : zeroT Tryd.prog 50 = some (.int .i8 0) := by kernel_rfl
theorem zr51 : zeroT Tryd.prog 51 = some (.int .i16 0) := by kernel_rfl
theorem zr53 : zeroT Tryd.prog 53 = some (.agg #[.string .empty, .int .i8 0, .int .i16 0, .int .i16 0]) := by kernel_rfl
theorem zr56 : zeroT Tryd.prog 56 = some (.agg #[.string .empty, .int .i8 0, .int .i16 0, .int .i16 0]) := by kernel_rfl
theorem zr60 : zeroT Tryd.prog 60 = some (.agg #[.int .u64 0, .int .u64 0, .int .u64 0, .int .u64 0]) := by kernel_rfl
theorem zr61 : zeroT Tryd.prog 61 = some (.slice none 0 0) := by kernel_rfl
theorem zr62 : zeroT Tryd.prog 62 = some (.slice none 0 0) := by kernel_rfl
theorem zr64 : zeroT Tryd.prog 64 = some (.agg #[.int .u64 0, .int .u64 0, .int .u64 0, .int .u64 0, .slice none 0 0, .slice none 0 0]) := by kernel_rfl
theorem zr68 : zeroT Tryd.prog 68 = some (.agg #[.int .u64 0, .int .u64 0, .int .u64 0, .int .u64 0]) := by kernel_rfl
theorem zr69 : zeroT Tryd.prog 69 = some (.slice none 0 0) := by kernel_rfl
theorem zr71 : zeroT Tryd.prog 71 = some (.agg #[.int .u64 0, .int .u64 0, .int .u64 0, .int .u64 0, .slice none 0 0, .slice none 0 0]) := by kernel_rfl
theorem zr77 : zeroT Tryd.prog 77 = some (.agg #[.int .i16 0, .int .i16 0, .int .i16 0]) := by kernel_rfl
theorem zr78 : zeroT Tryd.prog 78 = some (.slice none 0 0) := by kernel_rfl
theorem zr81 : zeroT Tryd.prog 81 = some (.agg #[.int .i16 0, .int .i16 0, .int .i16 0]) := by kernel_rfl
theorem zr9 : zeroT Tryd.prog 9 = some (.string .empty) := by kernel_rfl
theorem zr96 : zeroT Tryd.prog 96 = some (.agg #[.int .i8 0, .string .empty, .int .i16 0, .int .u64 0, .int .u64 0]) := by kernel_rfl
theorem sb100_0 : Sub ((Kd.pair (Kd.int .i8) (Kd.pair Kd.str (Kd.pair (Kd.int .i16) kMask))) : Kd (Int × ByteArray × Int × (BitVec 64 × BitVec 64))) 0 (Kd.int .i8) (fun x => x.1) (fun x y => (y, x.2.1, x.2.2.1, x.2.2.2)) := Sub.fst
theorem sb100_1 : Sub ((Kd.pair (Kd.int .i8) (Kd.pair Kd.str (Kd.pair (Kd.int .i16) kMask))) : Kd (Int × ByteArray × Int × (BitVec 64 × BitVec 64))) 1 Kd.str (fun x => x.2.1) (fun x y => (x.1, y, x.2.2.1, x.2.2.2)) := Sub.snd (Sub.fst)
theorem sb100_2 : Sub ((Kd.pair (Kd.int .i8) (Kd.pair Kd.str (Kd.pair (Kd.int .i16) kMask))) : Kd (Int × ByteArray × Int × (BitVec 64 × BitVec 64))) 2 (Kd.int .i16) (fun x => x.2.2.1) (fun x y => (x.1, x.2.1, y, x.2.2.2)) := Sub.snd (Sub.snd (Sub.fst))
theorem sb100_3 : Sub ((Kd.pair (Kd.int .i8) (Kd.pair Kd.str (Kd.pair (Kd.int .i16) kMask))) : Kd (Int × ByteArray × Int × (BitVec 64 × BitVec 64))) 3 kMask (fun x => x.2.2.2) (fun x y => (x.1, x.2.1, x.2.2.1, y)) := Sub.snd (Sub.snd (Sub.snd (Sub.whole _)))
theorem sb180_0 : Sub (kWit : Kd (Int × Int)) 0 (Kd.int .i64) (fun x => x.1) (fun x y => (y, x.2)) := Sub.fst
theorem sb180_1 : Sub (kWit : Kd (Int × Int)) 1 (Kd.int .i16) (fun x => x.2) (fun x y => (x.1, y)) := Sub.snd (Sub.whole _)
theorem sb183_0 : Sub (kWit : Kd (Int × Int)) 0 (Kd.int .i64) (fun x => x.1) (fun x y => (y, x.2)) := Sub.fst
theorem sb183_1 : Sub (kWit : Kd (Int × Int)) 1 (Kd.int .i16) (fun x => x.2) (fun x y => (x.1, y)) := Sub.snd (Sub.whole _)
theorem sb220_0 : Sub ((Kd.pair (Kd.int .u8) (Kd.int .u8)) : Kd (Int × Int)) 0 (Kd.int .u8) (fun x => x.1) (fun x y => (y, x.2)) := Sub.fst
theorem sb220_1 : Sub ((Kd.pair (Kd.int .u8) (Kd.int .u8)) : Kd (Int × Int)) 1 (Kd.int .u8) (fun x => x.2) (fun x y => (x.1, y)) := Sub.snd (Sub.whole _)
theorem sb25_0 : Sub (kCard : Kd (ByteArray × (BitVec 64 × BitVec 64))) 0 Kd.str (fun x => x.1) (fun x y => (y, x.2)) := Sub.fst
theorem sb25_1 : Sub (kCard : Kd (ByteArray × (BitVec 64 × BitVec 64))) 1 kMask (fun x => x.2) (fun x y => (x.1, y)) := Sub.snd (Sub.whole _)
theorem sb31_0 : Sub (kCard : Kd (ByteArray × (BitVec 64 × BitVec 64))) 0 Kd.str (fun x => x.1) (fun x y => (y, x.2)) := Sub.fst
theorem sb31_1 : Sub (kCard : Kd (ByteArray × (BitVec 64 × BitVec 64))) 1 kMask (fun x => x.2) (fun x y => (x.1, y)) := Sub.snd (Sub.whole _)
theorem sb53_0 : Sub (kField : Kd (ByteArray × Int × Int × Int)) 0 Kd.str (fun x => x.1) (fun x y => (y, x.2.1, x.2.2.1, x.2.2.2)) := Sub.fst
theorem sb53_1 : Sub (kField : Kd (ByteArray × Int × Int × Int)) 1 (Kd.int .i8) (fun x => x.2.1) (fun x y => (x.1, y, x.2.2.1, x.2.2.2)) := Sub.snd (Sub.fst)
theorem sb53_2 : Sub (kField : Kd (ByteArray × Int × Int × Int)) 2 (Kd.int .i16) (fun x => x.2.2.1) (fun x y => (x.1, x.2.1, y, x.2.2.2)) := Sub.snd (Sub.snd (Sub.fst))
theorem sb53_3 : Sub (kField : Kd (ByteArray × Int × Int × Int)) 3 (Kd.int .i16) (fun x => x.2.2.2) (fun x y => (x.1, x.2.1, x.2.2.1, y)) := Sub.snd (Sub.snd (Sub.snd (Sub.whole _)))
theorem sb56_0 : Sub (kField : Kd (ByteArray × Int × Int × Int)) 0 Kd.str (fun x => x.1) (fun x y => (y, x.2.1, x.2.2.1, x.2.2.2)) := Sub.fst
theorem sb56_1 : Sub (kField : Kd (ByteArray × Int × Int × Int)) 1 (Kd.int .i8) (fun x => x.2.1) (fun x y => (x.1, y, x.2.2.1, x.2.2.2)) := Sub.snd (Sub.fst)
theorem sb56_2 : Sub (kField : Kd (ByteArray × Int × Int × Int)) 2 (Kd.int .i16) (fun x => x.2.2.1) (fun x y => (x.1, x.2.1, y, x.2.2.2)) := Sub.snd (Sub.snd (Sub.fst))
theorem sb56_3 : Sub (kField : Kd (ByteArray × Int × Int × Int)) 3 (Kd.int .i16) (fun x => x.2.2.2) (fun x y => (x.1, x.2.1, x.2.2.1, y)) := Sub.snd (Sub.snd (Sub.snd (Sub.whole _)))
theorem sb60_0 : Sub (kQuery : Kd ((BitVec 64 × BitVec 64) × (BitVec 64 × BitVec 64))) 0 kMask (fun x => x.1) (fun x y => (y, x.2)) := Sub.fst
theorem sb60_1 : Sub (kQuery : Kd ((BitVec 64 × BitVec 64) × (BitVec 64 × BitVec 64))) 2 kMask (fun x => x.2) (fun x y => (x.1, y)) := Sub.snd (Sub.whole _)
theorem sb64_0 : Sub (kAns : Kd (((BitVec 64 × BitVec 64) × (BitVec 64 × BitVec 64)) × List (Int) × List (Int × Int))) 0 kQuery (fun x => x.1) (fun x y => (y, x.2.1, x.2.2)) := Sub.fst
theorem sb64_1 : Sub (kAns : Kd (((BitVec 64 × BitVec 64) × (BitVec 64 × BitVec 64)) × List (Int) × List (Int × Int))) 4 (Kd.slice (Kd.int .i64)) (fun x => x.2.1) (fun x y => (x.1, y, x.2.2)) := Sub.snd (Sub.fst)
theorem sb64_2 : Sub (kAns : Kd (((BitVec 64 × BitVec 64) × (BitVec 64 × BitVec 64)) × List (Int) × List (Int × Int))) 5 (Kd.slice kWit) (fun x => x.2.2) (fun x y => (x.1, x.2.1, y)) := Sub.snd (Sub.snd (Sub.whole _))
theorem sb68_0 : Sub (kQuery : Kd ((BitVec 64 × BitVec 64) × (BitVec 64 × BitVec 64))) 0 kMask (fun x => x.1) (fun x y => (y, x.2)) := Sub.fst
theorem sb68_1 : Sub (kQuery : Kd ((BitVec 64 × BitVec 64) × (BitVec 64 × BitVec 64))) 2 kMask (fun x => x.2) (fun x y => (x.1, y)) := Sub.snd (Sub.whole _)
theorem sb71_0 : Sub (kAns : Kd (((BitVec 64 × BitVec 64) × (BitVec 64 × BitVec 64)) × List (Int) × List (Int × Int))) 0 kQuery (fun x => x.1) (fun x y => (y, x.2.1, x.2.2)) := Sub.fst
theorem sb71_1 : Sub (kAns : Kd (((BitVec 64 × BitVec 64) × (BitVec 64 × BitVec 64)) × List (Int) × List (Int × Int))) 4 (Kd.slice (Kd.int .i64)) (fun x => x.2.1) (fun x y => (x.1, y, x.2.2)) := Sub.snd (Sub.fst)
theorem sb71_2 : Sub (kAns : Kd (((BitVec 64 × BitVec 64) × (BitVec 64 × BitVec 64)) × List (Int) × List (Int × Int))) 5 (Kd.slice kWit) (fun x => x.2.2) (fun x y => (x.1, x.2.1, y)) := Sub.snd (Sub.snd (Sub.whole _))
theorem sb77_0 : Sub (kMix : Kd (Int × Int × Int)) 0 (Kd.int .i16) (fun x => x.1) (fun x y => (y, x.2.1, x.2.2)) := Sub.fst
theorem sb77_1 : Sub (kMix : Kd (Int × Int × Int)) 1 (Kd.int .i16) (fun x => x.2.1) (fun x y => (x.1, y, x.2.2)) := Sub.snd (Sub.fst)
theorem sb77_2 : Sub (kMix : Kd (Int × Int × Int)) 2 (Kd.int .i16) (fun x => x.2.2) (fun x y => (x.1, x.2.1, y)) := Sub.snd (Sub.snd (Sub.whole _))
theorem sb81_0 : Sub (kMix : Kd (Int × Int × Int)) 0 (Kd.int .i16) (fun x => x.1) (fun x y => (y, x.2.1, x.2.2)) := Sub.fst
theorem sb81_1 : Sub (kMix : Kd (Int × Int × Int)) 1 (Kd.int .i16) (fun x => x.2.1) (fun x y => (x.1, y, x.2.2)) := Sub.snd (Sub.fst)
theorem sb81_2 : Sub (kMix : Kd (Int × Int × Int)) 2 (Kd.int .i16) (fun x => x.2.2) (fun x y => (x.1, x.2.1, y)) := Sub.snd (Sub.snd (Sub.whole _))
theorem sb96_0 : Sub ((Kd.pair (Kd.int .i8) (Kd.pair Kd.str (Kd.pair (Kd.int .i16) kMask))) : Kd (Int × ByteArray × Int × (BitVec 64 × BitVec 64))) 0 (Kd.int .i8) (fun x => x.1) (fun x y => (y, x.2.1, x.2.2.1, x.2.2.2)) := Sub.fst
theorem sb96_1 : Sub ((Kd.pair (Kd.int .i8) (Kd.pair Kd.str (Kd.pair (Kd.int .i16) kMask))) : Kd (Int × ByteArray × Int × (BitVec 64 × BitVec 64))) 1 Kd.str (fun x => x.2.1) (fun x y => (x.1, y, x.2.2.1, x.2.2.2)) := Sub.snd (Sub.fst)
theorem sb96_2 : Sub ((Kd.pair (Kd.int .i8) (Kd.pair Kd.str (Kd.pair (Kd.int .i16) kMask))) : Kd (Int × ByteArray × Int × (BitVec 64 × BitVec 64))) 2 (Kd.int .i16) (fun x => x.2.2.1) (fun x y => (x.1, x.2.1, y, x.2.2.2)) := Sub.snd (Sub.snd (Sub.fst))
theorem sb96_3 : Sub ((Kd.pair (Kd.int .i8) (Kd.pair Kd.str (Kd.pair (Kd.int .i16) kMask))) : Kd (Int × ByteArray × Int × (BitVec 64 × BitVec 64))) 3 kMask (fun x => x.2.2.2) (fun x y => (x.1, x.2.1, x.2.2.1, y)) := Sub.snd (Sub.snd (Sub.snd (Sub.whole _)))
theorem sx23_0 : Sub (kMask : Kd (BitVec 64 × BitVec 64)) (Int.toNat 0 * 1) Kd.u64 (fun x => x.1) (fun x y => (y, x.2)) := Sub.fst
theorem sx23_1 : Sub (kMask : Kd (BitVec 64 × BitVec 64)) (Int.toNat 1 * 1) Kd.u64 (fun x => x.2) (fun x y => (x.1, y)) := Sub.snd (Sub.whole _)
theorem sx29_0 : Sub (kMask : Kd (BitVec 64 × BitVec 64)) (Int.toNat 0 * 1) Kd.u64 (fun x => x.1) (fun x y => (y, x.2)) := Sub.fst
theorem sx29_1 : Sub (kMask : Kd (BitVec 64 × BitVec 64)) (Int.toNat 1 * 1) Kd.u64 (fun x => x.2) (fun x y => (x.1, y)) := Sub.snd (Sub.whole _)
theorem eq22 : EqT Tryd.prog 22 (Kd.u64 : Kd (BitVec 64)) 1 := EqT.u64 Tryd.underlying22 sz22
theorem eq23 : EqT Tryd.prog 23 (kMask : Kd (BitVec 64 × BitVec 64)) 2 := EqT.two Tryd.underlying23 sz23 (by kernel_rfl) eq22
theorem eq9 : EqT Tryd.prog 9 (Kd.str : Kd (ByteArray)) 1 := EqT.str Tryd.underlying9 sz9
theorem eq25 : EqT Tryd.prog 25 (kCard : Kd (ByteArray × (BitVec 64 × BitVec 64))) 3 := EqT.struct Tryd.underlying25 sz25 (by kernel_rfl) (EqFs.cons (r := 2) rfl rfl eq9 (EqFs.one rfl rfl eq23) rfl rfl)
theorem eq29 : EqT Tryd.prog 29 (kMask : Kd (BitVec 64 × BitVec 64)) 2 := EqT.two Tryd.underlying29 sz29 (by kernel_rfl) eq22
theorem eq31 : EqT Tryd.prog 31 (kCard : Kd (ByteArray × (BitVec 64 × BitVec 64))) 3 := EqT.struct Tryd.underlying31 sz31 (by kernel_rfl) (EqFs.cons (r := 2) rfl rfl eq9 (EqFs.one rfl rfl eq29) rfl rfl)
theorem eq51 : EqT Tryd.prog 51 ((Kd.int .i16) : Kd (Int)) 1 := EqT.int Tryd.underlying51 sz51
theorem eq50 : EqT Tryd.prog 50 ((Kd.int .i8) : Kd (Int)) 1 := EqT.int Tryd.underlying50 sz50
theorem eq53 : EqT Tryd.prog 53 (kField : Kd (ByteArray × Int × Int × Int)) 2 := EqT.struct Tryd.underlying53 sz53 (by kernel_rfl) (EqFs.cons (r := 1) rfl rfl eq9 (EqFs.cons (r := 1) rfl rfl eq50 (EqFs.cons (r := 1) rfl rfl eq51 (EqFs.one rfl rfl eq51) rfl rfl) rfl rfl) rfl rfl)
theorem eq56 : EqT Tryd.prog 56 (kField : Kd (ByteArray × Int × Int × Int)) 2 := EqT.struct Tryd.underlying56 sz56 (by kernel_rfl) (EqFs.cons (r := 1) rfl rfl eq9 (EqFs.cons (r := 1) rfl rfl eq50 (EqFs.cons (r := 1) rfl rfl eq51 (EqFs.one rfl rfl eq51) rfl rfl) rfl rfl) rfl rfl)
theorem eq60 : EqT Tryd.prog 60 (kQuery : Kd ((BitVec 64 × BitVec 64) × (BitVec 64 × BitVec 64))) 3 := EqT.struct Tryd.underlying60 sz60 (by kernel_rfl) (EqFs.cons (r := 2) rfl rfl eq23 (EqFs.one rfl rfl eq23) rfl rfl)
theorem eq68 : EqT Tryd.prog 68 (kQuery : Kd ((BitVec 64 × BitVec 64) × (BitVec 64 × BitVec 64))) 3 := EqT.struct Tryd.underlying68 sz68 (by kernel_rfl) (EqFs.cons (r := 2) rfl rfl eq29 (EqFs.one rfl rfl eq29) rfl rfl)
theorem eq77 : EqT Tryd.prog 77 (kMix : Kd (Int × Int × Int)) 2 := EqT.struct Tryd.underlying77 sz77 (by kernel_rfl) (EqFs.cons (r := 1) rfl rfl eq51 (EqFs.cons (r := 1) rfl rfl eq51 (EqFs.one rfl rfl eq51) rfl rfl) rfl rfl)
theorem eq81 : EqT Tryd.prog 81 (kMix : Kd (Int × Int × Int)) 2 := EqT.struct Tryd.underlying81 sz81 (by kernel_rfl) (EqFs.cons (r := 1) rfl rfl eq51 (EqFs.cons (r := 1) rfl rfl eq51 (EqFs.one rfl rfl eq51) rfl rfl) rfl rfl)
theorem eq96 : EqT Tryd.prog 96 ((Kd.pair (Kd.int .i8) (Kd.pair Kd.str (Kd.pair (Kd.int .i16) kMask))) : Kd (Int × ByteArray × Int × (BitVec 64 × BitVec 64))) 3 := EqT.struct Tryd.underlying96 sz96 (by kernel_rfl) (EqFs.cons (r := 2) rfl rfl eq50 (EqFs.cons (r := 2) rfl rfl eq9 (EqFs.cons (r := 2) rfl rfl eq51 (EqFs.one rfl rfl eq23) rfl rfl) rfl rfl) rfl rfl)
theorem eq100 : EqT Tryd.prog 100 ((Kd.pair (Kd.int .i8) (Kd.pair Kd.str (Kd.pair (Kd.int .i16) kMask))) : Kd (Int × ByteArray × Int × (BitVec 64 × BitVec 64))) 3 := EqT.struct Tryd.underlying100 sz100 (by kernel_rfl) (EqFs.cons (r := 2) rfl rfl eq50 (EqFs.cons (r := 2) rfl rfl eq9 (EqFs.cons (r := 2) rfl rfl eq51 (EqFs.one rfl rfl eq29) rfl rfl) rfl rfl) rfl rfl)
theorem eq2 : EqT Tryd.prog 2 ((Kd.int .i64) : Kd (Int)) 1 := EqT.int Tryd.underlying2 sz2
theorem eq180 : EqT Tryd.prog 180 (kWit : Kd (Int × Int)) 2 := EqT.struct Tryd.underlying180 sz180 (by kernel_rfl) (EqFs.cons (r := 1) rfl rfl eq2 (EqFs.one rfl rfl eq51) rfl rfl)
theorem eq183 : EqT Tryd.prog 183 (kWit : Kd (Int × Int)) 2 := EqT.struct Tryd.underlying183 sz183 (by kernel_rfl) (EqFs.cons (r := 1) rfl rfl eq2 (EqFs.one rfl rfl eq51) rfl rfl)
theorem eq5 : EqT Tryd.prog 5 ((Kd.int .u8) : Kd (Int)) 1 := EqT.int Tryd.underlying5 sz5
theorem eq220 : EqT Tryd.prog 220 ((Kd.pair (Kd.int .u8) (Kd.int .u8)) : Kd (Int × Int)) 2 := EqT.struct Tryd.underlying220 sz220 (by kernel_rfl) (EqFs.cons (r := 1) rfl rfl eq5 (EqFs.one rfl rfl eq5) rfl rfl)
end Go.Proofs.YtcaeabgfgofefaaDoor.VL
