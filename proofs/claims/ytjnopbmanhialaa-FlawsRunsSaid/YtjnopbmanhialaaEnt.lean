/-
  The functions of this program that plain calls enter.
-/
import Derived.Test.YtjnopbmanhialaaKit
import Derived.Test.YtjnopbmanhialaaProg
namespace Go.Proofs.Ytjnopbmanhialaa
open Go.Cru
theorem ent3 : Enters Try.prog 3 := enters Try.func3 rfl rfl
theorem ent4 : Enters Try.prog 4 := enters Try.func4 rfl rfl
theorem ent5 : Enters Try.prog 5 := enters Try.func5 rfl rfl
theorem ent6 : Enters Try.prog 6 := enters Try.func6 rfl rfl
theorem ent7 : Enters Try.prog 7 := enters Try.func7 rfl rfl
theorem ent8 : Enters Try.prog 8 := enters Try.func8 rfl rfl
theorem ent9 : Enters Try.prog 9 := enters Try.func9 rfl rfl
theorem ent10 : Enters Try.prog 10 := enters Try.func10 rfl rfl
theorem ent11 : Enters Try.prog 11 := enters Try.func11 rfl rfl
theorem ent12 : Enters Try.prog 12 := enters Try.func12 rfl rfl
theorem ent13 : Enters Try.prog 13 := enters Try.func13 rfl rfl
theorem ent14 : Enters Try.prog 14 := enters Try.func14 rfl rfl
theorem ent15 : Enters Try.prog 15 := enters Try.func15 rfl rfl
theorem ent16 : Enters Try.prog 16 := enters Try.func16 rfl rfl
theorem ent17 : Enters Try.prog 17 := enters Try.func17 rfl rfl
theorem ent18 : Enters Try.prog 18 := enters Try.func18 rfl rfl
theorem ent19 : Enters Try.prog 19 := enters Try.func19 rfl rfl
theorem ent20 : Enters Try.prog 20 := enters Try.func20 rfl rfl
theorem ent21 : Enters Try.prog 21 := enters Try.func21 rfl rfl
theorem ent22 : Enters Try.prog 22 := enters Try.func22 rfl rfl
theorem ent23 : Enters Try.prog 23 := enters Try.func23 rfl rfl
theorem ent24 : Enters Try.prog 24 := enters Try.func24 rfl rfl
theorem ent25 : Enters Try.prog 25 := enters Try.func25 rfl rfl
theorem ent26 : Enters Try.prog 26 := enters Try.func26 rfl rfl
theorem ent27 : Enters Try.prog 27 := enters Try.func27 rfl rfl
theorem ent28 : Enters Try.prog 28 := enters Try.func28 rfl rfl
theorem ent29 : Enters Try.prog 29 := enters Try.func29 rfl rfl
theorem ent30 : Enters Try.prog 30 := enters Try.func30 rfl rfl
theorem ent31 : Enters Try.prog 31 := enters Try.func31 rfl rfl
theorem ent32 : Enters Try.prog 32 := enters Try.func32 rfl rfl
theorem ent33 : Enters Try.prog 33 := enters Try.func33 rfl rfl
theorem ent34 : Enters Try.prog 34 := enters Try.func34 rfl rfl
theorem ent35 : Enters Try.prog 35 := enters Try.func35 rfl rfl
theorem ent36 : Enters Try.prog 36 := enters Try.func36 rfl rfl
theorem ent37 : Enters Try.prog 37 := enters Try.func37 rfl rfl
theorem ent38 : Enters Try.prog 38 := enters Try.func38 rfl rfl
theorem ent39 : Enters Try.prog 39 := enters Try.func39 rfl rfl
theorem ent40 : Enters Try.prog 40 := enters Try.func40 rfl rfl
theorem ent41 : Enters Try.prog 41 := enters Try.func41 rfl rfl
theorem ent42 : Enters Try.prog 42 := enters Try.func42 rfl rfl
theorem ent43 : Enters Try.prog 43 := enters Try.func43 rfl rfl
theorem ent44 : Enters Try.prog 44 := enters Try.func44 rfl rfl
theorem ent45 : Enters Try.prog 45 := enters Try.func45 rfl rfl
theorem ent46 : Enters Try.prog 46 := enters Try.func46 rfl rfl
end Go.Proofs.Ytjnopbmanhialaa
