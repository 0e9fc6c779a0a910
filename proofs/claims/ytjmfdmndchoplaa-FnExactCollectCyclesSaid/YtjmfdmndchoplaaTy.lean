/-
  Closed facts on the types and functions of the translation.
  Conditions: none.
-/
import Derived.Test.YtjmfdmndchoplaaBld
import Derived.Test.YtjmfdmndchoplaaProg
namespace Go.Proofs.Ytjmfdmndchoplaa
open Go Go.RowKit
theorem follows : Try.prog.follows .mixedOrders = true := by kernel_rfl
theorem sz3 : sz Try.prog 3 = some 1 := by kernel_rfl
theorem zr3 : zr Try.prog 3 = some (.int .i64 0) := by kernel_rfl
theorem by3 : byt Try.prog 3 = some 8 := by kernel_rfl
theorem sz4 : sz Try.prog 4 = some 1 := by kernel_rfl
theorem zr4 : zr Try.prog 4 = some (.bool false) := by kernel_rfl
theorem by4 : byt Try.prog 4 = some 1 := by kernel_rfl
theorem sz22 : sz Try.prog 22 = some 1 := by kernel_rfl
theorem zr22 : zr Try.prog 22 = some (.slice none 0 0) := by kernel_rfl
theorem by22 : byt Try.prog 22 = some 24 := by kernel_rfl
theorem sz23 : sz Try.prog 23 = some 1 := by kernel_rfl
theorem zr23 : zr Try.prog 23 = some (.slice none 0 0) := by kernel_rfl
theorem by23 : byt Try.prog 23 = some 24 := by kernel_rfl
theorem sz25 : sz Try.prog 25 = some 2 := by kernel_rfl
theorem zr25 : zr Try.prog 25 = some (.agg #[.slice none 0 0, .slice none 0 0]) := by kernel_rfl
theorem by25 : byt Try.prog 25 = some 48 := by kernel_rfl
theorem sz34 : sz Try.prog 34 = some 1 := by kernel_rfl
theorem zr34 : zr Try.prog 34 = some (.slice none 0 0) := by kernel_rfl
theorem by34 : byt Try.prog 34 = some 24 := by kernel_rfl
theorem sz36 : sz Try.prog 36 = some 2 := by kernel_rfl
theorem zr36 : zr Try.prog 36 = some (.agg #[.slice none 0 0, .slice none 0 0]) := by kernel_rfl
theorem by36 : byt Try.prog 36 = some 48 := by kernel_rfl
theorem sz38 : sz Try.prog 38 = some 1 := by kernel_rfl
theorem zr38 : zr Try.prog 38 = some (.slice none 0 0) := by kernel_rfl
theorem by38 : byt Try.prog 38 = some 24 := by kernel_rfl
theorem sz51 : sz Try.prog 51 = some 4 := by kernel_rfl
theorem zr51 : zr Try.prog 51 = some (.agg #[.slice none 0 0, .slice none 0 0, .slice none 0 0, .int .i64 0]) := by kernel_rfl
theorem by51 : byt Try.prog 51 = some 80 := by kernel_rfl
theorem sz58 : sz Try.prog 58 = some 3 := by kernel_rfl
theorem zr58 : zr Try.prog 58 = some (.agg #[.slice none 0 0, .slice none 0 0, .slice none 0 0]) := by kernel_rfl
theorem by58 : byt Try.prog 58 = some 72 := by kernel_rfl
theorem sz61 : sz Try.prog 61 = some 3 := by kernel_rfl
theorem zr61 : zr Try.prog 61 = some (.agg #[.slice none 0 0, .slice none 0 0, .slice none 0 0]) := by kernel_rfl
theorem by61 : byt Try.prog 61 = some 72 := by kernel_rfl
theorem sz70 : sz Try.prog 70 = some 3 := by kernel_rfl
theorem zr70 : zr Try.prog 70 = some (.agg #[.bool false, .int .i64 0, .slice none 0 0]) := by kernel_rfl
theorem by70 : byt Try.prog 70 = some 40 := by kernel_rfl
theorem sz82 : sz Try.prog 82 = some 1 := by kernel_rfl
theorem zr82 : zr Try.prog 82 = some (.int .u64 0) := by kernel_rfl
theorem by82 : byt Try.prog 82 = some 8 := by kernel_rfl
theorem sz84 : sz Try.prog 84 = some 5 := by kernel_rfl
theorem zr84 : zr Try.prog 84 = some (.agg #[.slice none 0 0, .slice none 0 0, .int .u64 0, .slice none 0 0, .int .i64 0]) := by kernel_rfl
theorem by84 : byt Try.prog 84 = some 88 := by kernel_rfl
theorem sz108 : sz Try.prog 108 = some 3 := by kernel_rfl
theorem zr108 : zr Try.prog 108 = some (.agg #[.bool false, .int .i64 0, .slice none 0 0]) := by kernel_rfl
theorem by108 : byt Try.prog 108 = some 40 := by kernel_rfl
theorem fz25_0 : sz Try.prog 23 = some 1 := by kernel_rfl
theorem fz25_1 : sz Try.prog 22 = some 1 := by kernel_rfl
theorem fz36_0 : sz Try.prog 34 = some 1 := by kernel_rfl
theorem fz36_1 : sz Try.prog 22 = some 1 := by kernel_rfl
theorem fz51_0 : sz Try.prog 25 = some 2 := by kernel_rfl
theorem fz51_1 : sz Try.prog 38 = some 1 := by kernel_rfl
theorem fz51_2 : sz Try.prog 3 = some 1 := by kernel_rfl
theorem fz58_0 : sz Try.prog 36 = some 2 := by kernel_rfl
theorem fz58_1 : sz Try.prog 22 = some 1 := by kernel_rfl
theorem fz61_0 : sz Try.prog 25 = some 2 := by kernel_rfl
theorem fz61_1 : sz Try.prog 22 = some 1 := by kernel_rfl
theorem fz70_0 : sz Try.prog 4 = some 1 := by kernel_rfl
theorem fz70_1 : sz Try.prog 3 = some 1 := by kernel_rfl
theorem fz70_2 : sz Try.prog 22 = some 1 := by kernel_rfl
theorem fz84_0 : sz Try.prog 25 = some 2 := by kernel_rfl
theorem fz84_1 : sz Try.prog 82 = some 1 := by kernel_rfl
theorem fz84_2 : sz Try.prog 22 = some 1 := by kernel_rfl
theorem fz84_3 : sz Try.prog 3 = some 1 := by kernel_rfl
theorem fz108_0 : sz Try.prog 4 = some 1 := by kernel_rfl
theorem fz108_1 : sz Try.prog 3 = some 1 := by kernel_rfl
theorem fz108_2 : sz Try.prog 22 = some 1 := by kernel_rfl
theorem pc25 : plc Try.prog 25 = some [(0, 1), (1, 1)] := by kernel_rfl
theorem pc51 : plc Try.prog 51 = some [(0, 2), (2, 1), (3, 1)] := by kernel_rfl
theorem pc61 : plc Try.prog 61 = some [(0, 2), (2, 1)] := by kernel_rfl
theorem pc70 : plc Try.prog 70 = some [(0, 1), (1, 1), (2, 1)] := by kernel_rfl
theorem pc84 : plc Try.prog 84 = some [(0, 2), (2, 1), (3, 1), (4, 1)] := by kernel_rfl
theorem en3 : Enters Try.prog 3 := enters_of Try.func3 (by kernel_rfl) rfl
theorem en4 : Enters Try.prog 4 := enters_of Try.func4 (by kernel_rfl) rfl
theorem en5 : Enters Try.prog 5 := enters_of Try.func5 (by kernel_rfl) rfl
theorem en6 : Enters Try.prog 6 := enters_of Try.func6 (by kernel_rfl) rfl
theorem en7 : Enters Try.prog 7 := enters_of Try.func7 (by kernel_rfl) rfl
theorem en8 : Enters Try.prog 8 := enters_of Try.func8 (by kernel_rfl) rfl
theorem en9 : Enters Try.prog 9 := enters_of Try.func9 (by kernel_rfl) rfl
theorem en10 : Enters Try.prog 10 := enters_of Try.func10 (by kernel_rfl) rfl
theorem en11 : Enters Try.prog 11 := enters_of Try.func11 (by kernel_rfl) rfl
theorem en12 : Enters Try.prog 12 := enters_of Try.func12 (by kernel_rfl) rfl
theorem en13 : Enters Try.prog 13 := enters_of Try.func13 (by kernel_rfl) rfl
theorem en14 : Enters Try.prog 14 := enters_of Try.func14 (by kernel_rfl) rfl
theorem en15 : Enters Try.prog 15 := enters_of Try.func15 (by kernel_rfl) rfl
theorem en16 : Enters Try.prog 16 := enters_of Try.func16 (by kernel_rfl) rfl
theorem en17 : Enters Try.prog 17 := enters_of Try.func17 (by kernel_rfl) rfl
theorem en18 : Enters Try.prog 18 := enters_of Try.func18 (by kernel_rfl) rfl
theorem en19 : Enters Try.prog 19 := enters_of Try.func19 (by kernel_rfl) rfl
theorem en20 : Enters Try.prog 20 := enters_of Try.func20 (by kernel_rfl) rfl
theorem en21 : Enters Try.prog 21 := enters_of Try.func21 (by kernel_rfl) rfl
theorem en22 : Enters Try.prog 22 := enters_of Try.func22 (by kernel_rfl) rfl
theorem en23 : Enters Try.prog 23 := enters_of Try.func23 (by kernel_rfl) rfl
theorem en24 : Enters Try.prog 24 := enters_of Try.func24 (by kernel_rfl) rfl
theorem en25 : Enters Try.prog 25 := enters_of Try.func25 (by kernel_rfl) rfl
theorem en26 : Enters Try.prog 26 := enters_of Try.func26 (by kernel_rfl) rfl
theorem en27 : Enters Try.prog 27 := enters_of Try.func27 (by kernel_rfl) rfl
theorem en28 : Enters Try.prog 28 := enters_of Try.func28 (by kernel_rfl) rfl
theorem en29 : Enters Try.prog 29 := enters_of Try.func29 (by kernel_rfl) rfl
theorem en30 : Enters Try.prog 30 := enters_of Try.func30 (by kernel_rfl) rfl
theorem en31 : Enters Try.prog 31 := enters_of Try.func31 (by kernel_rfl) rfl
theorem en32 : Enters Try.prog 32 := enters_of Try.func32 (by kernel_rfl) rfl
theorem en33 : Enters Try.prog 33 := enters_of Try.func33 (by kernel_rfl) rfl
theorem en34 : Enters Try.prog 34 := enters_of Try.func34 (by kernel_rfl) rfl
theorem en35 : Enters Try.prog 35 := enters_of Try.func35 (by kernel_rfl) rfl
theorem en36 : Enters Try.prog 36 := enters_of Try.func36 (by kernel_rfl) rfl
theorem en37 : Enters Try.prog 37 := enters_of Try.func37 (by kernel_rfl) rfl
theorem en38 : Enters Try.prog 38 := enters_of Try.func38 (by kernel_rfl) rfl
theorem en39 : Enters Try.prog 39 := enters_of Try.func39 (by kernel_rfl) rfl
theorem en40 : Enters Try.prog 40 := enters_of Try.func40 (by kernel_rfl) rfl
theorem en41 : Enters Try.prog 41 := enters_of Try.func41 (by kernel_rfl) rfl
theorem en42 : Enters Try.prog 42 := enters_of Try.func42 (by kernel_rfl) rfl
theorem en43 : Enters Try.prog 43 := enters_of Try.func43 (by kernel_rfl) rfl
theorem en44 : Enters Try.prog 44 := enters_of Try.func44 (by kernel_rfl) rfl
theorem en45 : Enters Try.prog 45 := enters_of Try.func45 (by kernel_rfl) rfl
theorem en46 : Enters Try.prog 46 := enters_of Try.func46 (by kernel_rfl) rfl
theorem en47 : Enters Try.prog 47 := enters_of Try.func47 (by kernel_rfl) rfl
theorem en48 : Enters Try.prog 48 := enters_of Try.func48 (by kernel_rfl) rfl
theorem en49 : Enters Try.prog 49 := enters_of Try.func49 (by kernel_rfl) rfl
theorem en50 : Enters Try.prog 50 := enters_of Try.func50 (by kernel_rfl) rfl
theorem en51 : Enters Try.prog 51 := enters_of Try.func51 (by kernel_rfl) rfl
theorem en52 : Enters Try.prog 52 := enters_of Try.func52 (by kernel_rfl) rfl
theorem en53 : Enters Try.prog 53 := enters_of Try.func53 (by kernel_rfl) rfl
theorem en54 : Enters Try.prog 54 := enters_of Try.func54 (by kernel_rfl) rfl
theorem en55 : Enters Try.prog 55 := enters_of Try.func55 (by kernel_rfl) rfl
theorem en56 : Enters Try.prog 56 := enters_of Try.func56 (by kernel_rfl) rfl
theorem en57 : Enters Try.prog 57 := enters_of Try.func57 (by kernel_rfl) rfl
theorem en58 : Enters Try.prog 58 := enters_of Try.func58 (by kernel_rfl) rfl
theorem en59 : Enters Try.prog 59 := enters_of Try.func59 (by kernel_rfl) rfl
theorem en60 : Enters Try.prog 60 := enters_of Try.func60 (by kernel_rfl) rfl
theorem en61 : Enters Try.prog 61 := enters_of Try.func61 (by kernel_rfl) rfl
theorem en62 : Enters Try.prog 62 := enters_of Try.func62 (by kernel_rfl) rfl
theorem en63 : Enters Try.prog 63 := enters_of Try.func63 (by kernel_rfl) rfl
theorem en64 : Enters Try.prog 64 := enters_of Try.func64 (by kernel_rfl) rfl
theorem en65 : Enters Try.prog 65 := enters_of Try.func65 (by kernel_rfl) rfl
theorem en66 : Enters Try.prog 66 := enters_of Try.func66 (by kernel_rfl) rfl
theorem en67 : Enters Try.prog 67 := enters_of Try.func67 (by kernel_rfl) rfl
theorem en68 : Enters Try.prog 68 := enters_of Try.func68 (by kernel_rfl) rfl
theorem en69 : Enters Try.prog 69 := enters_of Try.func69 (by kernel_rfl) rfl
theorem en70 : Enters Try.prog 70 := enters_of Try.func70 (by kernel_rfl) rfl
theorem en71 : Enters Try.prog 71 := enters_of Try.func71 (by kernel_rfl) rfl
theorem en72 : Enters Try.prog 72 := enters_of Try.func72 (by kernel_rfl) rfl
theorem en73 : Enters Try.prog 73 := enters_of Try.func73 (by kernel_rfl) rfl
theorem en74 : Enters Try.prog 74 := enters_of Try.func74 (by kernel_rfl) rfl
theorem en75 : Enters Try.prog 75 := enters_of Try.func75 (by kernel_rfl) rfl
theorem en76 : Enters Try.prog 76 := enters_of Try.func76 (by kernel_rfl) rfl
theorem en77 : Enters Try.prog 77 := enters_of Try.func77 (by kernel_rfl) rfl
theorem en78 : Enters Try.prog 78 := enters_of Try.func78 (by kernel_rfl) rfl
theorem en79 : Enters Try.prog 79 := enters_of Try.func79 (by kernel_rfl) rfl
theorem en80 : Enters Try.prog 80 := enters_of Try.func80 (by kernel_rfl) rfl
theorem en81 : Enters Try.prog 81 := enters_of Try.func81 (by kernel_rfl) rfl
theorem en82 : Enters Try.prog 82 := enters_of Try.func82 (by kernel_rfl) rfl
theorem en83 : Enters Try.prog 83 := enters_of Try.func83 (by kernel_rfl) rfl
theorem en84 : Enters Try.prog 84 := enters_of Try.func84 (by kernel_rfl) rfl
theorem en85 : Enters Try.prog 85 := enters_of Try.func85 (by kernel_rfl) rfl
theorem en86 : Enters Try.prog 86 := enters_of Try.func86 (by kernel_rfl) rfl
theorem en87 : Enters Try.prog 87 := enters_of Try.func87 (by kernel_rfl) rfl
theorem en88 : Enters Try.prog 88 := enters_of Try.func88 (by kernel_rfl) rfl
theorem en89 : Enters Try.prog 89 := enters_of Try.func89 (by kernel_rfl) rfl
theorem en90 : Enters Try.prog 90 := enters_of Try.func90 (by kernel_rfl) rfl
theorem en91 : Enters Try.prog 91 := enters_of Try.func91 (by kernel_rfl) rfl
theorem en92 : Enters Try.prog 92 := enters_of Try.func92 (by kernel_rfl) rfl
theorem en93 : Enters Try.prog 93 := enters_of Try.func93 (by kernel_rfl) rfl
theorem en94 : Enters Try.prog 94 := enters_of Try.func94 (by kernel_rfl) rfl
theorem en95 : Enters Try.prog 95 := enters_of Try.func95 (by kernel_rfl) rfl
theorem en96 : Enters Try.prog 96 := enters_of Try.func96 (by kernel_rfl) rfl
theorem en97 : Enters Try.prog 97 := enters_of Try.func97 (by kernel_rfl) rfl
theorem en98 : Enters Try.prog 98 := enters_of Try.func98 (by kernel_rfl) rfl
theorem en99 : Enters Try.prog 99 := enters_of Try.func99 (by kernel_rfl) rfl
theorem en100 : Enters Try.prog 100 := enters_of Try.func100 (by kernel_rfl) rfl
theorem en101 : Enters Try.prog 101 := enters_of Try.func101 (by kernel_rfl) rfl
theorem en102 : Enters Try.prog 102 := enters_of Try.func102 (by kernel_rfl) rfl
theorem en103 : Enters Try.prog 103 := enters_of Try.func103 (by kernel_rfl) rfl
end Go.Proofs.Ytjmfdmndchoplaa
