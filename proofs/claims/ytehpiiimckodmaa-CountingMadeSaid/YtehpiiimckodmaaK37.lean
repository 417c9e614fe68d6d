/- The example of chapter 37 is true: evaluated. -/
import Derived.Test.YtehpiiimckodmaaProg
import Derived.KernelRfl
import Derived.Test.YtehpiiimckodmaaEv4
import Derived.Test.YtehpiiimckodmaaKC
set_option linter.unusedVariables false
set_option linter.unusedSimpArgs false
section
namespace Go.Ev.K37
open Go
def op (d : Nat) (o : COp) : CE := ⟨some d, o, none⟩
def mv (d s : Nat) : CE := ⟨some d, .move (.t s), none⟩
def gt (d : Nat) (o : COp) (g : Nat) : CE := ⟨some d, o, some (g, true)⟩
def gf (d : Nat) (o : COp) (g : Nat) : CE := ⟨some d, o, some (g, false)⟩
def ci (n : Nat) : Opd := .c (.int .i64 (.ofNat n))
/-- semigroup/counting.Match -/
def c22 : CFunc := Go.EvK.c_counting_Match
theorem c22_ok : cFunc Go.Proofs.Try.prog Go.Proofs.Try.f22 = some c22 := by kernel_rfl
/-- semigroup/semigrouplaw37.known -/
def c23 : CFunc := ⟨44, [.tmp 0], (.seq (.reg [op 0 (.move (.c (.bool false)))])
 (.seq (.reg [op 6 (.buildSlice 4 1 4 [(.bool false), (.bool false), (.bool false), (.bool false)] [(0, (.c (.bool false))), (1, (.c (.bool false))), (2, (.c (.bool false))), (3, (.c (.bool true)))]), op 7 (.buildSlice 3 1 1 [(.int .i64 (.ofNat 0))] [(0, (ci 1))]), op 8 (.buildSlice 3 1 1 [(.int .i64 (.ofNat 0))] [(0, (ci 2))]), op 9 (.buildSlice 3 1 1 [(.int .i64 (.ofNat 0))] [(0, (ci 3))]), op 10 (.buildSlice 3 1 1 [(.int .i64 (.ofNat 0))] [(0, (ci 3))]), op 11 (.buildSlice 22 1 4 [(.slice none 0 0), (.slice none 0 0), (.slice none 0 0), (.slice none 0 0)] [(0, (.t 7)), (1, (.t 8)), (2, (.t 9)), (3, (.t 10))]), op 12 (.build [(.int .i64 (.ofNat 0)), (.int .i64 (.ofNat 0)), (.slice none 0 0), (.slice none 0 0)] [(0, 1, (ci 1)), (2, 1, (.t 6)), (3, 1, (.t 11))]), op 13 (.call 61 [(.t 12)]), mv 5 13, op 14 (.extract 0 (.t 5)), op 15 (.extract 1 (.t 5)), op 1 (.alloc 101 [(.int .i64 (.ofNat 0)), (.slice none 0 0), (.slice none 0 0), (.slice none 0 0), (.slice none 0 0), (.slice none 0 0)]), ⟨none, .store 6 (.t 1) (.t 14), none⟩, mv 2 15])
 (.seq (.reg [op 17 (.loadN 6 (.t 1)), op 18 (.call 62 [(.t 17)]), mv 16 18, op 19 (.extract 0 (.t 16)), op 20 (.extract 1 (.t 16)), op 3 (.alloc 53 [(.slice none 0 0), (.slice none 0 0), (.slice none 0 0)]), ⟨none, .store 3 (.t 3) (.t 19), none⟩, mv 4 20])
 (.seq (.reg [mv 21 2, op 22 (.bin .eql (.t 21) (ci 0)), mv 23 22, gt 24 (.move (.t 4)) 23, gt 25 (.bin .eql (.t 24) (ci 0)) 23, op 26 (.pick (.t 23) (.t 25) (.c (.bool false))), mv 27 26, gt 28 (.loadN 3 (.t 3)) 27, gt 29 (.buildSlice 3 1 1 [(.int .i64 (.ofNat 0))] [(0, (ci 3))]) 27, gt 30 (.buildSlice 3 1 1 [(.int .i64 (.ofNat 0))] [(0, (ci 1))]) 27, gt 31 (.buildSlice 4 1 4 [(.bool false), (.bool false), (.bool false), (.bool false)] [(0, (.c (.bool false))), (1, (.c (.bool false))), (2, (.c (.bool false))), (3, (.c (.bool true)))]) 27, gt 32 (.build [(.slice none 0 0), (.slice none 0 0), (.slice none 0 0)] [(0, 1, (.t 29)), (1, 1, (.t 30)), (2, 1, (.t 31))]) 27, gt 33 (.call 63 [(.t 28), (.t 32)]) 27, op 34 (.pick (.t 27) (.t 33) (.c (.bool false))), mv 35 34, gt 36 (.loadN 3 (.t 3)) 35, gt 37 (.call 22 [(.t 36), (.c (.string ⟨⟨[97, 97, 97, 97]⟩⟩))]) 35, op 38 (.pick (.t 35) (.t 37) (.c (.bool false))), mv 39 38, gt 40 (.loadN 3 (.t 3)) 39, gt 41 (.call 22 [(.t 40), (.c (.string ⟨⟨[97, 97]⟩⟩))]) 39, gt 42 (.not (.t 41)) 39, op 43 (.pick (.t 39) (.t 42) (.c (.bool false))), mv 0 43])
 .ret))))⟩
theorem c23_ok : cFunc Go.Proofs.Try.prog Go.Proofs.Try.f23 = some c23 := by kernel_rfl
/-- semigroup/counting.Validate -/
def c26 : CFunc := Go.EvK.c_counting_Validate
theorem c26_ok : cFunc Go.Proofs.Try.prog Go.Proofs.Try.f26 = some c26 := by kernel_rfl
/-- semigroup/word.Valid -/
def c44 : CFunc := Go.EvK.c_word_Valid
theorem c44_ok : cFunc Go.Proofs.Try.prog Go.Proofs.Try.f44 = some c44 := by kernel_rfl
/-- semigroup/semigroupref01.MayLetters -/
def c49 : CFunc := Go.EvK.c_ref01_MayLetters
theorem c49_ok : cFunc Go.Proofs.Try.prog Go.Proofs.Try.f49 = some c49 := by kernel_rfl
/-- semigroup/counting.next -/
def c60 : CFunc := Go.EvK.c_counting_next
theorem c60_ok : cFunc Go.Proofs.Try.prog Go.Proofs.Try.f60 = some c60 := by kernel_rfl
/-- semigroup/semigroupref21.Of -/
def c61 : CFunc := ⟨28, [.cells 6 2, .tmp 3], (.seq (.reg [op 1 (.box 32 (.t 0)), op 2 (.alloc 101 [(.int .i64 (.ofNat 0)), (.slice none 0 0), (.slice none 0 0), (.slice none 0 0), (.slice none 0 0), (.slice none 0 0)]), op 3 (.move (ci 0))])
 (.seq (.seq (.reg [op 6 (.loadN 4 (.t 1)), op 7 (.call 91 [(.t 6)]), mv 4 7])
 (.seq (.reg [mv 8 4, op 9 (.bin .neq (.t 8) (ci 0))])
 (.cond (.t 9) (.seq (.reg [op 10 (.build [(.int .i64 (.ofNat 0)), (.slice none 0 0), (.slice none 0 0), (.slice none 0 0), (.slice none 0 0), (.slice none 0 0)] []), mv 11 4, ⟨none, .store 6 (.t 2) (.t 10), none⟩, mv 3 11])
 .ret) .skip)))
 (.seq (.reg [op 12 (.loadN 4 (.t 1)), op 13 (.call 92 [(.t 12)]), op 5 (.alloc 32 [(.int .i64 (.ofNat 0)), (.int .i64 (.ofNat 0)), (.slice none 0 0), (.slice none 0 0)]), ⟨none, .store 4 (.t 5) (.t 13), none⟩])
 (.seq (.seq (.reg [op 14 (.faddr 2 (.t 5)), op 15 (.load (.t 14)), op 16 (.lenSl (.t 15)), op 17 (.bin .gtr (.t 16) (ci 32))])
 (.cond (.t 17) (.seq (.reg [op 18 (.build [(.int .i64 (.ofNat 0)), (.slice none 0 0), (.slice none 0 0), (.slice none 0 0), (.slice none 0 0), (.slice none 0 0)] []), ⟨none, .store 6 (.t 2) (.t 18), none⟩, op 3 (.move (ci 3))])
 .ret) .skip))
 (.seq (.draw [(op 19 (.loadN 4 (.t 5)), 0), (op 21 (.faddr 1 (.t 5)), 1), (op 22 (.load (.t 21)), 1), (op 23 (.faddr 2 (.t 5)), 1), (op 24 (.load (.t 23)), 1), (op 20 (.call 94 [(.t 19)]), 1), (op 25 (.call 93 [(.t 20), (.t 22), (.t 24)]), 2), (op 26 (.extract 0 (.t 25)), 2), (op 27 (.extract 1 (.t 25)), 2), (⟨none, .store 6 (.t 2) (.t 26), none⟩, 3), (mv 3 27, 3)])
 .ret)))))⟩
theorem c61_ok : cFunc Go.Proofs.Try.prog Go.Proofs.Try.f61 = some c61 := by kernel_rfl
/-- semigroup/counting.Of -/
def c62 : CFunc := ⟨148, [.cells 3 2, .tmp 3], (.seq (.reg [op 1 (.box 101 (.t 0)), op 2 (.alloc 53 [(.slice none 0 0), (.slice none 0 0), (.slice none 0 0)]), op 3 (.move (ci 0))])
 (.seq (.seq (.reg [op 19 (.loadN 6 (.t 1)), op 20 (.call 95 [(.t 19)]), mv 4 20])
 (.seq (.reg [mv 21 4, op 22 (.bin .neq (.t 21) (ci 0))])
 (.cond (.t 22) (.seq (.reg [op 23 (.build [(.slice none 0 0), (.slice none 0 0), (.slice none 0 0)] []), mv 24 4, ⟨none, .store 3 (.t 2) (.t 23), none⟩, mv 3 24])
 .ret) .skip)))
 (.seq (.seq (.reg [op 25 (.faddr 1 (.t 1)), op 26 (.load (.t 25)), op 27 (.call 96 [(.t 26)]), op 28 (.not (.t 27))])
 (.cond (.t 28) (.seq (.reg [op 29 (.build [(.slice none 0 0), (.slice none 0 0), (.slice none 0 0)] []), ⟨none, .store 3 (.t 2) (.t 29), none⟩, op 3 (.move (ci 20))])
 .ret) .skip))
 (.seq (.reg [op 5 (.alloc 53 [(.slice none 0 0), (.slice none 0 0), (.slice none 0 0)])])
 (.seq (.seq (.reg [op 30 (.faddr 3 (.t 1)), op 31 (.load (.t 30)), op 32 (.lenSl (.t 31)), op 33 (.move (ci 0))])
 (.block 0 (.loop (.seq (.reg [op 34 (.bin .lss (.t 33) (.t 32))])
 (.seq (.cond (.t 34) .skip (.exit 0))
 (.seq (.block 1 (.seq (.reg [op 35 (.iaddr 1 (.t 31) (.t 33)), op 36 (.load (.t 35)), mv 7 36])
 (.seq (.reg [op 37 (.mkMap), mv 8 37])
 (.seq (.reg [op 9 (.move (ci 0)), op 10 (.move (ci 0))])
 (.block 2 (.loop (.block 3 (.seq (.reg [mv 39 8, mv 40 9, op 41 (.lookup (.one .int) (.int .i64 (.ofNat 0)) true (.t 39) (.t 40)), mv 38 41, op 42 (.extract 0 (.t 38)), op 43 (.extract 1 (.t 38)), mv 11 42, mv 12 43])
 (.seq (.seq (.reg [mv 44 12])
 (.cond (.t 44) (.seq (.draw [(op 45 (.faddr 0 (.t 5)), 0), (op 46 (.load (.t 45)), 0), (mv 47 11, 0), (op 48 (.buildSlice 3 1 1 [(.int .i64 (.ofNat 0))] [(0, (.t 47))]), 0), (op 50 (.faddr 1 (.t 5)), 1), (op 51 (.load (.t 50)), 1), (mv 52 10, 1), (mv 53 11, 1), (op 54 (.bin .sub (.t 52) (.t 53)), 1), (op 55 (.buildSlice 3 1 1 [(.int .i64 (.ofNat 0))] [(0, (.t 54))]), 1), (op 49 (.append 3 1 8 (.t 46) (.t 48)), 1), (op 57 (.faddr 0 (.t 5)), 2), (op 56 (.append 3 1 8 (.t 51) (.t 55)), 2), (⟨none, .store 1 (.t 57) (.t 49), none⟩, 3), (op 58 (.faddr 1 (.t 5)), 3), (⟨none, .store 1 (.t 58) (.t 56), none⟩, 4)])
 (.exit 2)) .skip))
 (.seq (.reg [mv 59 8, mv 60 9, mv 61 10, ⟨none, .mapSet (.one .int) (.t 59) (.t 60) (.t 61), none⟩])
 (.reg [op 62 (.faddr 1 (.t 1)), op 63 (.load (.t 62)), mv 64 9, op 65 (.iaddr 1 (.t 63) (.t 64)), op 66 (.load (.t 65)), mv 67 7, op 68 (.iaddr 1 (.t 66) (.t 67)), op 69 (.load (.t 68)), mv 70 10, op 71 (.bin .add (.t 70) (ci 1)), mv 9 69, mv 10 71])))))))))))
 (.reg [op 72 (.bin .add (.t 33) (ci 1)), mv 33 72])))))))
 (.seq (.reg [op 73 (.faddr 0 (.t 5)), op 74 (.load (.t 73)), op 75 (.faddr 1 (.t 5)), op 76 (.load (.t 75)), op 77 (.call 67 [(.t 74), (.t 76)]), mv 13 77])
 (.seq (.seq (.reg [mv 78 13, op 79 (.bin .gtr (.t 78) (ci 2000))])
 (.cond (.t 79) (.seq (.reg [op 80 (.build [(.slice none 0 0), (.slice none 0 0), (.slice none 0 0)] []), ⟨none, .store 3 (.t 2) (.t 80), none⟩, op 3 (.move (ci 3))])
 .ret) .skip))
 (.seq (.seq (.reg [op 14 (.move (ci 0))])
 (.block 4 (.loop (.seq (.seq (.reg [mv 81 14, mv 82 13, op 83 (.bin .lss (.t 81) (.t 82))])
 (.cond (.t 83) .skip (.exit 4)))
 (.seq (.block 5 (.seq (.reg [mv 86 14, op 15 (.move (ci 0)), mv 16 86])
 (.seq (.seq (.reg [op 87 (.faddr 0 (.t 5)), op 88 (.load (.t 87)), op 89 (.lenSl (.t 88)), op 90 (.bin .sub (.t 89) (ci 1)), mv 17 90])
 (.block 6 (.loop (.seq (.seq (.reg [mv 91 17, op 92 (.bin .geq (.t 91) (ci 0))])
 (.cond (.t 92) .skip (.exit 6)))
 (.seq (.block 7 (.seq (.draw [(mv 95 16, 0), (op 96 (.faddr 0 (.t 5)), 0), (op 97 (.load (.t 96)), 0), (mv 98 17, 0), (op 99 (.iaddr 1 (.t 97) (.t 98)), 0), (op 100 (.load (.t 99)), 0), (op 101 (.faddr 1 (.t 5)), 0), (op 102 (.load (.t 101)), 0), (mv 103 17, 0), (op 104 (.iaddr 1 (.t 102) (.t 103)), 0), (op 105 (.load (.t 104)), 0), (op 106 (.bin .add (.t 100) (.t 105)), 0), (op 107 (.bin .rem (.t 95) (.t 106)), 0), (mv 18 107, 0)])
 (.seq (.draw [(mv 108 16, 0), (op 109 (.faddr 0 (.t 5)), 0), (op 110 (.load (.t 109)), 0), (mv 111 17, 0), (op 112 (.iaddr 1 (.t 110) (.t 111)), 0), (op 113 (.load (.t 112)), 0), (op 114 (.faddr 1 (.t 5)), 0), (op 115 (.load (.t 114)), 0), (mv 116 17, 0), (op 117 (.iaddr 1 (.t 115) (.t 116)), 0), (op 118 (.load (.t 117)), 0), (op 119 (.bin .add (.t 113) (.t 118)), 0), (op 120 (.bin .quo (.t 108) (.t 119)), 0), (mv 16 120, 0)])
 (.block 8 (.loop (.seq (.seq (.reg [mv 121 18, op 122 (.bin .gtr (.t 121) (ci 0))])
 (.cond (.t 122) .skip (.exit 8)))
 (.seq (.block 9 (.draw [(op 125 (.faddr 1 (.t 1)), 0), (op 126 (.load (.t 125)), 0), (mv 127 15, 0), (op 128 (.iaddr 1 (.t 126) (.t 127)), 0), (op 129 (.load (.t 128)), 0), (op 130 (.faddr 3 (.t 1)), 0), (op 131 (.load (.t 130)), 0), (mv 132 17, 0), (op 133 (.iaddr 1 (.t 131) (.t 132)), 0), (op 134 (.load (.t 133)), 0), (op 135 (.iaddr 1 (.t 129) (.t 134)), 0), (op 136 (.load (.t 135)), 0), (mv 15 136, 0)]))
 (.reg [mv 123 18, op 124 (.bin .sub (.t 123) (ci 1)), mv 18 124]))))))))
 (.reg [mv 93 17, op 94 (.bin .sub (.t 93) (ci 1)), mv 17 94]))))))
 (.draw [(op 137 (.faddr 2 (.t 5)), 0), (op 138 (.load (.t 137)), 0), (op 139 (.faddr 4 (.t 1)), 0), (op 140 (.load (.t 139)), 0), (mv 141 15, 0), (op 142 (.iaddr 1 (.t 140) (.t 141)), 0), (op 143 (.load (.t 142)), 0), (op 144 (.buildSlice 4 1 1 [(.bool false)] [(0, (.t 143))]), 0), (op 145 (.append 4 1 1 (.t 138) (.t 144)), 1), (op 146 (.faddr 2 (.t 5)), 1), (⟨none, .store 1 (.t 146) (.t 145), none⟩, 2)]))))
 (.reg [mv 84 14, op 85 (.bin .add (.t 84) (ci 1)), mv 14 85]))))))
 (.seq (.reg [op 147 (.loadN 3 (.t 5)), ⟨none, .store 3 (.t 2) (.t 147), none⟩, op 3 (.move (ci 0))])
 .ret)))))))))⟩
theorem c62_ok : cFunc Go.Proofs.Try.prog Go.Proofs.Try.f62 = some c62 := by kernel_rfl
/-- semigroup/semigroupref37.Same -/
def c63 : CFunc := ⟨24, [.tmp 4], (.seq (.reg [op 2 (.box 53 (.t 0)), op 3 (.box 53 (.t 1)), op 4 (.move (.c (.bool false)))])
 (.seq (.reg [op 5 (.faddr 0 (.t 2)), op 6 (.load (.t 5)), op 7 (.faddr 0 (.t 3)), op 8 (.load (.t 7)), op 9 (.call 79 [(.t 6), (.t 8)]), mv 10 9, gt 11 (.faddr 1 (.t 2)) 10, gt 12 (.load (.t 11)) 10, gt 13 (.faddr 1 (.t 3)) 10, gt 14 (.load (.t 13)) 10, gt 15 (.call 79 [(.t 12), (.t 14)]) 10, op 16 (.pick (.t 10) (.t 15) (.c (.bool false))), mv 17 16, gt 18 (.faddr 2 (.t 2)) 17, gt 19 (.load (.t 18)) 17, gt 20 (.faddr 2 (.t 3)) 17, gt 21 (.load (.t 20)) 17, gt 22 (.call 97 [(.t 19), (.t 21)]) 17, op 23 (.pick (.t 17) (.t 22) (.c (.bool false))), mv 4 23])
 .ret))⟩
theorem c63_ok : cFunc Go.Proofs.Try.prog Go.Proofs.Try.f63 = some c63 := by kernel_rfl
/-- semigroup/counting.size -/
def c67 : CFunc := Go.EvK.c_counting_size
theorem c67_ok : cFunc Go.Proofs.Try.prog Go.Proofs.Try.f67 = some c67 := by kernel_rfl
/-- semigroup/dfa.Validate -/
def c75 : CFunc := Go.EvK.c_dfa_Validate
theorem c75_ok : cFunc Go.Proofs.Try.prog Go.Proofs.Try.f75 = some c75 := by kernel_rfl
/-- semigroup/minimize.Minimal -/
def c78 : CFunc := ⟨15, [.cells 4 2], (.seq (.reg [op 1 (.box 32 (.t 0)), op 2 (.alloc 32 [(.int .i64 (.ofNat 0)), (.int .i64 (.ofNat 0)), (.slice none 0 0), (.slice none 0 0)])])
 (.seq (.seq (.reg [op 5 (.loadN 4 (.t 1)), op 6 (.call 75 [(.t 5)]), op 7 (.bin .neq (.t 6) (ci 0))])
 (.cond (.t 7) (.seq (.reg [op 8 (.build [(.int .i64 (.ofNat 0)), (.int .i64 (.ofNat 0)), (.slice none 0 0), (.slice none 0 0)] []), ⟨none, .store 4 (.t 2) (.t 8), none⟩])
 .ret) .skip))
 (.seq (.reg [op 10 (.loadN 4 (.t 1)), op 11 (.call 102 [(.t 10)]), mv 9 11, op 12 (.extract 0 (.t 9)), op 13 (.extract 1 (.t 9)), op 3 (.alloc 32 [(.int .i64 (.ofNat 0)), (.int .i64 (.ofNat 0)), (.slice none 0 0), (.slice none 0 0)]), ⟨none, .store 4 (.t 3) (.t 12), none⟩, mv 4 13])
 (.seq (.reg [op 14 (.loadN 4 (.t 3)), ⟨none, .store 4 (.t 2) (.t 14), none⟩])
 .ret))))⟩
theorem c78_ok : cFunc Go.Proofs.Try.prog Go.Proofs.Try.f78 = some c78 := by kernel_rfl
/-- semigroup/semigroupref03.Same -/
def c79 : CFunc := Go.EvK.c_ref03_Same
theorem c79_ok : cFunc Go.Proofs.Try.prog Go.Proofs.Try.f79 = some c79 := by kernel_rfl
/-- semigroup/semigroupref07.Validate -/
def c91 : CFunc := ⟨64, [.tmp 2], (.seq (.reg [op 1 (.box 32 (.t 0)), op 2 (.move (ci 0))])
 (.seq (.reg [op 8 (.faddr 2 (.t 1)), op 9 (.load (.t 8)), op 10 (.lenSl (.t 9)), mv 3 10])
 (.seq (.seq (.reg [op 11 (.faddr 0 (.t 1)), op 12 (.load (.t 11)), op 13 (.call 49 [(.t 12)]), op 14 (.not (.t 13))])
 (.cond (.t 14) (.seq (.reg [op 2 (.move (ci 1))])
 .ret) .skip))
 (.seq (.seq (.reg [mv 15 3, op 16 (.bin .gtr (.t 15) (ci 512))])
 (.cond (.t 16) (.seq (.reg [op 2 (.move (ci 3))])
 .ret) .skip))
 (.seq (.seq (.reg [mv 17 3, op 18 (.bin .eql (.t 17) (ci 0)), mv 19 18, gf 20 (.faddr 3 (.t 1)) 19, gf 21 (.load (.t 20)) 19, gf 22 (.lenSl (.t 21)) 19, gf 23 (.move (.t 3)) 19, gf 24 (.bin .neq (.t 22) (.t 23)) 19, op 25 (.pick (.t 19) (.c (.bool true)) (.t 24)), mv 26 25, gf 27 (.faddr 1 (.t 1)) 26, gf 28 (.load (.t 27)) 26, gf 29 (.bin .lss (.t 28) (ci 0)) 26, op 30 (.pick (.t 26) (.c (.bool true)) (.t 29)), mv 31 30, gf 32 (.faddr 1 (.t 1)) 31, gf 33 (.load (.t 32)) 31, gf 34 (.move (.t 3)) 31, gf 35 (.bin .geq (.t 33) (.t 34)) 31, op 36 (.pick (.t 31) (.c (.bool true)) (.t 35))])
 (.cond (.t 36) (.seq (.reg [op 2 (.move (ci 4))])
 .ret) .skip))
 (.seq (.seq (.reg [op 37 (.faddr 3 (.t 1)), op 38 (.load (.t 37)), op 39 (.lenSl (.t 38)), op 40 (.move (ci 0))])
 (.block 0 (.loop (.seq (.reg [op 41 (.bin .lss (.t 40) (.t 39))])
 (.seq (.cond (.t 41) .skip (.exit 0))
 (.seq (.block 1 (.seq (.reg [op 42 (.iaddr 1 (.t 38) (.t 40)), op 43 (.load (.t 42)), mv 5 43])
 (.seq (.seq (.reg [mv 44 5, op 45 (.lenSl (.t 44)), op 46 (.faddr 0 (.t 1)), op 47 (.load (.t 46)), op 48 (.bin .neq (.t 45) (.t 47))])
 (.cond (.t 48) (.seq (.reg [op 2 (.move (ci 4))])
 .ret) .skip))
 (.seq (.reg [mv 49 5, op 50 (.lenSl (.t 49)), op 51 (.move (ci 0))])
 (.block 2 (.loop (.seq (.reg [op 52 (.bin .lss (.t 51) (.t 50))])
 (.seq (.cond (.t 52) .skip (.exit 2))
 (.seq (.block 3 (.seq (.reg [op 53 (.iaddr 1 (.t 49) (.t 51)), op 54 (.load (.t 53)), mv 7 54])
 (.seq (.reg [mv 55 7, op 56 (.bin .lss (.t 55) (ci 0)), mv 57 56, gf 58 (.move (.t 7)) 57, gf 59 (.move (.t 3)) 57, gf 60 (.bin .geq (.t 58) (.t 59)) 57, op 61 (.pick (.t 57) (.c (.bool true)) (.t 60))])
 (.cond (.t 61) (.seq (.reg [op 2 (.move (ci 4))])
 .ret) .skip))))
 (.reg [op 62 (.bin .add (.t 51) (ci 1)), mv 51 62]))))))))))
 (.reg [op 63 (.bin .add (.t 40) (ci 1)), mv 40 63])))))))
 (.seq (.reg [op 2 (.move (ci 0))])
 .ret)))))))⟩
theorem c91_ok : cFunc Go.Proofs.Try.prog Go.Proofs.Try.f91 = some c91 := by kernel_rfl
/-- semigroup/semigroupref08.Minimal -/
def c92 : CFunc := Go.EvK.c_ref08_Minimal
theorem c92_ok : cFunc Go.Proofs.Try.prog Go.Proofs.Try.f92 = some c92 := by kernel_rfl
/-- semigroup/semigroupref21.of -/
def c93 : CFunc := ⟨101, [.cells 6 6, .tmp 7], (.seq (.reg [op 6 (.alloc 101 [(.int .i64 (.ofNat 0)), (.slice none 0 0), (.slice none 0 0), (.slice none 0 0), (.slice none 0 0), (.slice none 0 0)]), op 7 (.move (ci 0))])
 (.seq (.reg [mv 18 0, op 19 (.call 112 [(.t 18), (.c (.bool true))]), mv 17 19, op 20 (.extract 0 (.t 17)), op 21 (.extract 1 (.t 17)), op 8 (.alloc 163 [(.int .i64 (.ofNat 0)), (.bool false), (.slice none 0 0), (.slice none 0 0), (.slice none 0 0), (.slice none 0 0), (.slice none 0 0), (.slice none 0 0), (.int .i64 (.ofNat 0))]), ⟨none, .store 9 (.t 8) (.t 20), none⟩, mv 9 21])
 (.seq (.seq (.reg [mv 22 9, op 23 (.bin .neq (.t 22) (ci 0)), mv 24 23, gf 25 (.faddr 3 (.t 8)) 24, gf 26 (.load (.t 25)) 24, gf 27 (.lenSl (.t 26)) 24, gf 28 (.bin .gtr (.t 27) (ci 400)) 24, op 29 (.pick (.t 24) (.c (.bool true)) (.t 28))])
 (.cond (.t 29) (.seq (.reg [op 30 (.build [(.int .i64 (.ofNat 0)), (.slice none 0 0), (.slice none 0 0), (.slice none 0 0), (.slice none 0 0), (.slice none 0 0)] []), ⟨none, .store 6 (.t 6) (.t 30), none⟩, op 7 (.move (ci 3))])
 .ret) .skip))
 (.seq (.draw [(mv 31 0, 1), (op 32 (.lenSl (.t 31)), 1), (op 33 (.loadN 9 (.t 8)), 0), (op 35 (.faddr 3 (.t 8)), 1), (op 36 (.load (.t 35)), 1), (op 37 (.lenSl (.t 36)), 1), (op 38 (.mkSlice 4 1 1 [(.bool false)] (.t 37) (.t 37)), 1), (op 10 (.alloc 101 [(.int .i64 (.ofNat 0)), (.slice none 0 0), (.slice none 0 0), (.slice none 0 0), (.slice none 0 0), (.slice none 0 0)]), 1), (op 34 (.call 113 [(.t 33)]), 1), (op 39 (.build [(.int .i64 (.ofNat 0)), (.slice none 0 0), (.slice none 0 0), (.slice none 0 0), (.slice none 0 0), (.slice none 0 0)] [(0, 1, (.t 32)), (1, 1, (.t 34)), (5, 1, (.t 38))]), 1), (⟨none, .store 6 (.t 10) (.t 39), none⟩, 2)])
 (.seq (.seq (.reg [op 40 (.faddr 3 (.t 8)), op 41 (.load (.t 40)), op 42 (.lenSl (.t 41)), op 43 (.move (ci 0))])
 (.block 0 (.loop (.seq (.reg [op 44 (.bin .lss (.t 43) (.t 42))])
 (.seq (.cond (.t 44) .skip (.exit 0))
 (.seq (.block 1 (.seq (.reg [mv 45 43, op 46 (.iaddr 1 (.t 41) (.t 43)), op 47 (.load (.t 46)), mv 11 45, mv 12 47])
 (.seq (.draw [(op 48 (.faddr 2 (.t 10)), 1), (op 49 (.load (.t 48)), 1), (op 50 (.loadN 9 (.t 8)), 0), (mv 51 11, 0), (op 52 (.call 114 [(.t 50), (.t 51)]), 1), (op 53 (.buildSlice 9 1 1 [(.string ⟨⟨[]⟩⟩)] [(0, (.t 52))]), 1), (op 54 (.append 9 1 16 (.t 49) (.t 53)), 2), (op 55 (.faddr 2 (.t 10)), 2), (⟨none, .store 1 (.t 55) (.t 54), none⟩, 3)])
 (.draw [(op 56 (.faddr 4 (.t 10)), 0), (op 57 (.load (.t 56)), 0), (mv 58 2, 0), (mv 59 12, 0), (mv 60 1, 0), (op 61 (.iaddr 1 (.t 59) (.t 60)), 0), (op 62 (.load (.t 61)), 0), (op 63 (.iaddr 1 (.t 58) (.t 62)), 0), (op 64 (.load (.t 63)), 0), (op 65 (.buildSlice 4 1 1 [(.bool false)] [(0, (.t 64))]), 0), (op 66 (.append 4 1 1 (.t 57) (.t 65)), 1), (op 67 (.faddr 4 (.t 10)), 1), (⟨none, .store 1 (.t 67) (.t 66), none⟩, 2)]))))
 (.reg [op 68 (.bin .add (.t 43) (ci 1)), mv 43 68])))))))
 (.seq (.seq (.reg [mv 69 0, op 70 (.lenSl (.t 69)), op 71 (.move (ci 0))])
 (.block 2 (.loop (.seq (.reg [op 72 (.bin .lss (.t 71) (.t 70))])
 (.seq (.cond (.t 72) .skip (.exit 2))
 (.seq (.block 3 (.seq (.reg [op 73 (.iaddr 1 (.t 69) (.t 71)), op 74 (.load (.t 73)), mv 14 74])
 (.draw [(op 75 (.faddr 3 (.t 10)), 1), (op 76 (.load (.t 75)), 1), (op 77 (.faddr 3 (.t 8)), 0), (op 78 (.load (.t 77)), 0), (mv 79 14, 0), (op 80 (.call 115 [(.t 78), (.t 79)]), 1), (op 81 (.buildSlice 3 1 1 [(.int .i64 (.ofNat 0))] [(0, (.t 80))]), 1), (op 82 (.append 3 1 8 (.t 76) (.t 81)), 2), (op 83 (.faddr 3 (.t 10)), 2), (⟨none, .store 1 (.t 83) (.t 82), none⟩, 3)])))
 (.reg [op 84 (.bin .add (.t 71) (ci 1)), mv 71 84])))))))
 (.seq (.seq (.reg [op 85 (.faddr 1 (.t 10)), op 86 (.load (.t 85)), op 87 (.faddr 3 (.t 10)), op 88 (.load (.t 87)), op 89 (.call 116 [(.t 86), (.t 88)]), op 90 (.lenSl (.t 89)), op 91 (.move (ci 0))])
 (.block 4 (.loop (.seq (.reg [op 92 (.bin .lss (.t 91) (.t 90))])
 (.seq (.cond (.t 92) .skip (.exit 4))
 (.seq (.block 5 (.seq (.reg [op 93 (.iaddr 1 (.t 89) (.t 91)), op 94 (.load (.t 93)), mv 16 94])
 (.reg [op 95 (.faddr 5 (.t 10)), op 96 (.load (.t 95)), mv 97 16, op 98 (.iaddr 1 (.t 96) (.t 97)), ⟨none, .store 1 (.t 98) (.c (.bool true)), none⟩])))
 (.reg [op 99 (.bin .add (.t 91) (ci 1)), mv 91 99])))))))
 (.seq (.reg [op 100 (.loadN 6 (.t 10)), ⟨none, .store 6 (.t 6) (.t 100), none⟩, op 7 (.move (ci 0))])
 .ret))))))))⟩
theorem c93_ok : cFunc Go.Proofs.Try.prog Go.Proofs.Try.f93 = some c93 := by kernel_rfl
/-- semigroup/semigroupref11.OfDFA -/
def c94 : CFunc := ⟨36, [.tmp 2], (.seq (.reg [op 1 (.box 32 (.t 0)), op 2 (.move (.c (.slice none 0 0)))])
 (.seq (.reg [op 3 (.move (.c (.slice none 0 0)))])
 (.seq (.seq (.reg [op 4 (.move (ci 0))])
 (.block 0 (.loop (.seq (.seq (.reg [mv 7 4, op 8 (.faddr 0 (.t 1)), op 9 (.load (.t 8)), op 10 (.bin .lss (.t 7) (.t 9))])
 (.cond (.t 10) .skip (.exit 0)))
 (.seq (.block 1 (.seq (.reg [op 5 (.move (.c (.slice none 0 0)))])
 (.seq (.seq (.reg [op 13 (.faddr 3 (.t 1)), op 14 (.load (.t 13)), op 15 (.lenSl (.t 14)), op 16 (.move (ci 0))])
 (.block 2 (.loop (.seq (.reg [op 17 (.bin .lss (.t 16) (.t 15))])
 (.seq (.cond (.t 17) .skip (.exit 2))
 (.seq (.block 3 (.seq (.reg [mv 18 16, mv 6 18])
 (.reg [mv 19 5, op 20 (.faddr 3 (.t 1)), op 21 (.load (.t 20)), mv 22 6, op 23 (.iaddr 1 (.t 21) (.t 22)), op 24 (.load (.t 23)), mv 25 4, op 26 (.iaddr 1 (.t 24) (.t 25)), op 27 (.load (.t 26)), op 28 (.buildSlice 3 1 1 [(.int .i64 (.ofNat 0))] [(0, (.t 27))]), op 29 (.append 3 1 8 (.t 19) (.t 28)), mv 5 29])))
 (.reg [op 30 (.bin .add (.t 16) (ci 1)), mv 16 30])))))))
 (.reg [mv 31 3, mv 32 5, op 33 (.buildSlice 22 1 1 [(.slice none 0 0)] [(0, (.t 32))]), op 34 (.append 22 1 24 (.t 31) (.t 33)), mv 3 34]))))
 (.reg [mv 11 4, op 12 (.bin .add (.t 11) (ci 1)), mv 4 12]))))))
 (.seq (.reg [mv 35 3, mv 2 35])
 .ret))))⟩
theorem c94_ok : cFunc Go.Proofs.Try.prog Go.Proofs.Try.f94 = some c94 := by kernel_rfl
/-- semigroup/syntactic.Validate -/
def c95 : CFunc := ⟨6, [.tmp 2], (.seq (.reg [op 1 (.box 101 (.t 0)), op 2 (.move (ci 0))])
 (.seq (.seq (.reg [op 3 (.loadN 6 (.t 1)), op 4 (.call 117 [(.t 3)]), op 5 (.not (.t 4))])
 (.cond (.t 5) (.seq (.reg [op 2 (.move (ci 8))])
 .ret) .skip))
 (.seq (.reg [op 2 (.move (ci 0))])
 .ret)))⟩
theorem c95_ok : cFunc Go.Proofs.Try.prog Go.Proofs.Try.f95 = some c95 := by kernel_rfl
/-- semigroup/mult.Commutative -/
def c96 : CFunc := ⟨14, [.tmp 2], (.seq (.reg [op 2 (.move (.c (.bool false)))])
 (.seq (.reg [mv 3 0, op 4 (.call 118 [(.t 3)]), op 5 (.bin .eql (.t 4) (ci 0)), mv 6 5, gt 7 (.move (.t 0)) 6, gt 8 (.call 119 [(.t 7)]) 6, gt 9 (.lenSl (.t 8)) 6, gt 10 (.move (.t 0)) 6, gt 11 (.lenSl (.t 10)) 6, gt 12 (.bin .eql (.t 9) (.t 11)) 6, op 13 (.pick (.t 6) (.t 12) (.c (.bool false))), mv 2 13])
 .ret))⟩
theorem c96_ok : cFunc Go.Proofs.Try.prog Go.Proofs.Try.f96 = some c96 := by kernel_rfl
/-- semigroup/semigroupref21.SameBools -/
def c97 : CFunc := ⟨26, [.tmp 4], (.seq (.reg [op 4 (.move (.c (.bool false)))])
 (.seq (.seq (.reg [mv 6 0, op 7 (.lenSl (.t 6)), mv 8 1, op 9 (.lenSl (.t 8)), op 10 (.bin .neq (.t 7) (.t 9))])
 (.cond (.t 10) (.seq (.reg [op 4 (.move (.c (.bool false)))])
 .ret) .skip))
 (.seq (.seq (.reg [mv 11 0, op 12 (.lenSl (.t 11)), op 13 (.move (ci 0))])
 (.block 0 (.loop (.seq (.reg [op 14 (.bin .lss (.t 13) (.t 12))])
 (.seq (.cond (.t 14) .skip (.exit 0))
 (.seq (.block 1 (.seq (.reg [mv 15 13, mv 5 15])
 (.seq (.draw [(mv 16 0, 0), (mv 17 5, 0), (op 18 (.iaddr 1 (.t 16) (.t 17)), 0), (op 19 (.load (.t 18)), 0), (mv 20 1, 0), (mv 21 5, 0), (op 22 (.iaddr 1 (.t 20) (.t 21)), 0), (op 23 (.load (.t 22)), 0), (op 24 (.eqB true (.t 19) (.t 23)), 0)])
 (.cond (.t 24) (.seq (.reg [op 4 (.move (.c (.bool false)))])
 .ret) .skip))))
 (.reg [op 25 (.bin .add (.t 13) (ci 1)), mv 13 25])))))))
 (.seq (.reg [op 4 (.move (.c (.bool true)))])
 .ret))))⟩
theorem c97_ok : cFunc Go.Proofs.Try.prog Go.Proofs.Try.f97 = some c97 := by kernel_rfl
/-- semigroup/minimize.minimal -/
def c102 : CFunc := ⟨125, [.cells 4 2, .tmp 3], (.seq (.reg [op 1 (.box 32 (.t 0)), op 2 (.alloc 32 [(.int .i64 (.ofNat 0)), (.int .i64 (.ofNat 0)), (.slice none 0 0), (.slice none 0 0)]), op 3 (.move (.c (.slice none 0 0)))])
 (.seq (.reg [op 18 (.loadN 4 (.t 1)), op 19 (.call 121 [(.t 18)]), mv 17 19, op 20 (.extract 0 (.t 17)), op 21 (.extract 1 (.t 17)), op 4 (.alloc 32 [(.int .i64 (.ofNat 0)), (.int .i64 (.ofNat 0)), (.slice none 0 0), (.slice none 0 0)]), ⟨none, .store 4 (.t 4) (.t 20), none⟩, mv 5 21])
 (.seq (.reg [op 22 (.loadN 4 (.t 4)), op 23 (.call 122 [(.t 22)]), mv 6 23])
 (.seq (.draw [(op 24 (.faddr 0 (.t 4)), 0), (op 25 (.load (.t 24)), 0), (mv 26 6, 0), (op 27 (.iaddr 1 (.t 26) (ci 0)), 0), (op 28 (.load (.t 27)), 0), (op 29 (.build [(.int .i64 (.ofNat 0)), (.int .i64 (.ofNat 0)), (.slice none 0 0), (.slice none 0 0)] [(0, 1, (.t 25)), (1, 1, (.t 28))]), 0), (op 7 (.alloc 32 [(.int .i64 (.ofNat 0)), (.int .i64 (.ofNat 0)), (.slice none 0 0), (.slice none 0 0)]), 0), (⟨none, .store 4 (.t 7) (.t 29), none⟩, 1)])
 (.seq (.reg [mv 30 6, op 31 (.call 123 [(.t 30)]), op 32 (.mkSlice 4 1 1 [(.bool false)] (.t 31) (.t 31)), op 33 (.faddr 2 (.t 7)), ⟨none, .store 1 (.t 33) (.t 32), none⟩])
 (.seq (.reg [op 34 (.faddr 2 (.t 7)), op 35 (.load (.t 34)), op 36 (.lenSl (.t 35)), op 37 (.mkSlice 22 24 1 [(.slice none 0 0)] (.t 36) (.t 36)), op 38 (.faddr 3 (.t 7)), ⟨none, .store 1 (.t 38) (.t 37), none⟩])
 (.seq (.seq (.reg [mv 39 6, op 40 (.lenSl (.t 39)), op 41 (.move (ci 0))])
 (.block 0 (.loop (.seq (.reg [op 42 (.bin .lss (.t 41) (.t 40))])
 (.seq (.cond (.t 42) .skip (.exit 0))
 (.seq (.block 1 (.seq (.reg [mv 43 41, op 44 (.iaddr 1 (.t 39) (.t 41)), op 45 (.load (.t 44)), mv 8 43, mv 9 45])
 (.seq (.seq (.reg [op 46 (.faddr 3 (.t 7)), op 47 (.load (.t 46)), mv 48 9, op 49 (.iaddr 1 (.t 47) (.t 48)), op 50 (.load (.t 49)), op 51 (.eqNil .sl true (.t 50))])
 (.cond (.t 51) (.exit 1) .skip))
 (.seq (.draw [(op 52 (.faddr 2 (.t 7)), 0), (op 53 (.load (.t 52)), 0), (mv 54 9, 0), (op 55 (.faddr 2 (.t 4)), 0), (op 56 (.load (.t 55)), 0), (mv 57 8, 0), (op 58 (.iaddr 1 (.t 56) (.t 57)), 0), (op 59 (.load (.t 58)), 0), (op 60 (.iaddr 1 (.t 53) (.t 54)), 0), (⟨none, .store 1 (.t 60) (.t 59), none⟩, 1)])
 (.seq (.draw [(op 61 (.faddr 3 (.t 7)), 0), (op 62 (.load (.t 61)), 0), (mv 63 9, 0), (op 64 (.faddr 0 (.t 4)), 0), (op 65 (.load (.t 64)), 0), (op 66 (.mkSlice 3 8 1 [(.int .i64 (.ofNat 0))] (.t 65) (.t 65)), 0), (op 67 (.iaddr 1 (.t 62) (.t 63)), 0), (⟨none, .store 1 (.t 67) (.t 66), none⟩, 1)])
 (.seq (.reg [op 68 (.faddr 3 (.t 4)), op 69 (.load (.t 68)), mv 70 8, op 71 (.iaddr 1 (.t 69) (.t 70)), op 72 (.load (.t 71)), op 73 (.lenSl (.t 72)), op 74 (.move (ci 0))])
 (.block 2 (.loop (.seq (.reg [op 75 (.bin .lss (.t 74) (.t 73))])
 (.seq (.cond (.t 75) .skip (.exit 2))
 (.seq (.block 3 (.seq (.reg [mv 76 74, op 77 (.iaddr 1 (.t 72) (.t 74)), op 78 (.load (.t 77)), mv 10 76, mv 11 78])
 (.draw [(op 79 (.faddr 3 (.t 7)), 0), (op 80 (.load (.t 79)), 0), (mv 81 9, 0), (op 82 (.iaddr 1 (.t 80) (.t 81)), 0), (op 83 (.load (.t 82)), 0), (mv 84 10, 0), (mv 85 6, 0), (mv 86 11, 0), (op 87 (.iaddr 1 (.t 85) (.t 86)), 0), (op 88 (.load (.t 87)), 0), (op 89 (.iaddr 1 (.t 83) (.t 84)), 0), (⟨none, .store 1 (.t 89) (.t 88), none⟩, 1)])))
 (.reg [op 90 (.bin .add (.t 74) (ci 1)), mv 74 90]))))))))))))
 (.reg [op 91 (.bin .add (.t 41) (ci 1)), mv 41 91])))))))
 (.seq (.reg [op 93 (.loadN 4 (.t 7)), op 94 (.call 121 [(.t 93)]), mv 92 94, op 95 (.extract 0 (.t 92)), op 96 (.extract 1 (.t 92)), op 12 (.alloc 32 [(.int .i64 (.ofNat 0)), (.int .i64 (.ofNat 0)), (.slice none 0 0), (.slice none 0 0)]), ⟨none, .store 4 (.t 12) (.t 95), none⟩, mv 13 96])
 (.seq (.reg [mv 97 5, op 98 (.lenSl (.t 97)), op 99 (.mkSlice 3 8 1 [(.int .i64 (.ofNat 0))] (.t 98) (.t 98)), mv 14 99])
 (.seq (.seq (.reg [mv 100 5, op 101 (.lenSl (.t 100)), op 102 (.move (ci 0))])
 (.block 4 (.loop (.seq (.reg [op 103 (.bin .lss (.t 102) (.t 101))])
 (.seq (.cond (.t 103) .skip (.exit 4))
 (.seq (.block 5 (.seq (.reg [mv 104 102, op 105 (.iaddr 1 (.t 100) (.t 102)), op 106 (.load (.t 105)), mv 15 104, mv 16 106])
 (.seq (.reg [mv 107 14, mv 108 15, op 109 (.iaddr 1 (.t 107) (.t 108)), ⟨none, .store 1 (.t 109) (.c (.int .i64 (.negSucc 0))), none⟩])
 (.seq (.reg [mv 110 16, op 111 (.bin .geq (.t 110) (ci 0))])
 (.cond (.t 111) (.reg [mv 112 14, mv 113 15, mv 114 13, mv 115 6, mv 116 16, op 117 (.iaddr 1 (.t 115) (.t 116)), op 118 (.load (.t 117)), op 119 (.iaddr 1 (.t 114) (.t 118)), op 120 (.load (.t 119)), op 121 (.iaddr 1 (.t 112) (.t 113)), ⟨none, .store 1 (.t 121) (.t 120), none⟩]) .skip)))))
 (.reg [op 122 (.bin .add (.t 102) (ci 1)), mv 102 122])))))))
 (.seq (.reg [op 123 (.loadN 4 (.t 12)), mv 124 14, ⟨none, .store 4 (.t 2) (.t 123), none⟩, mv 3 124])
 .ret)))))))))))⟩
theorem c102_ok : cFunc Go.Proofs.Try.prog Go.Proofs.Try.f102 = some c102 := by kernel_rfl
/-- semigroup/semigroupref08.Classes -/
def c110 : CFunc := Go.EvK.c_ref08_Classes
theorem c110_ok : cFunc Go.Proofs.Try.prog Go.Proofs.Try.f110 = some c110 := by kernel_rfl
/-- semigroup/semigroupref07.Trim -/
def c111 : CFunc := Go.EvK.c_ref07_Trim
theorem c111_ok : cFunc Go.Proofs.Try.prog Go.Proofs.Try.f111 = some c111 := by kernel_rfl
/-- semigroup/semigroupref12.Build -/
def c112 : CFunc := ⟨22, [.cells 9 4, .tmp 5], (.seq (.reg [op 4 (.alloc 163 [(.int .i64 (.ofNat 0)), (.bool false), (.slice none 0 0), (.slice none 0 0), (.slice none 0 0), (.slice none 0 0), (.slice none 0 0), (.slice none 0 0), (.int .i64 (.ofNat 0))]), op 5 (.move (ci 0))])
 (.seq (.reg [mv 9 0, mv 10 1, op 11 (.call 129 [(.t 9), (.t 10)]), mv 8 11, op 12 (.extract 0 (.t 8)), op 13 (.extract 1 (.t 8)), op 6 (.alloc 163 [(.int .i64 (.ofNat 0)), (.bool false), (.slice none 0 0), (.slice none 0 0), (.slice none 0 0), (.slice none 0 0), (.slice none 0 0), (.slice none 0 0), (.int .i64 (.ofNat 0))]), ⟨none, .store 9 (.t 6) (.t 12), none⟩, mv 7 13])
 (.seq (.seq (.reg [mv 14 7, op 15 (.bin .neq (.t 14) (ci 0))])
 (.cond (.t 15) (.seq (.reg [op 16 (.build [(.int .i64 (.ofNat 0)), (.bool false), (.slice none 0 0), (.slice none 0 0), (.slice none 0 0), (.slice none 0 0), (.slice none 0 0), (.slice none 0 0), (.int .i64 (.ofNat 0))] []), mv 17 7, ⟨none, .store 9 (.t 4) (.t 16), none⟩, mv 5 17])
 .ret) .skip))
 (.seq (.reg [op 18 (.loadN 9 (.t 6)), op 19 (.call 130 [(.t 18), (ci 2001)]), op 20 (.extract 0 (.t 19)), op 21 (.extract 1 (.t 19)), ⟨none, .store 9 (.t 4) (.t 20), none⟩, mv 5 21])
 .ret))))⟩
theorem c112_ok : cFunc Go.Proofs.Try.prog Go.Proofs.Try.f112 = some c112 := by kernel_rfl
/-- semigroup/semigroupref12.Table -/
def c113 : CFunc := ⟨55, [.tmp 2], (.seq (.reg [op 1 (.box 163 (.t 0)), op 2 (.move (.c (.slice none 0 0)))])
 (.seq (.reg [op 3 (.move (.c (.slice none 0 0)))])
 (.seq (.seq (.reg [op 10 (.faddr 3 (.t 1)), op 11 (.load (.t 10)), op 12 (.lenSl (.t 11)), op 13 (.move (ci 0))])
 (.block 0 (.loop (.seq (.reg [op 14 (.bin .lss (.t 13) (.t 12))])
 (.seq (.cond (.t 14) .skip (.exit 0))
 (.seq (.block 1 (.seq (.reg [mv 15 13, mv 4 15])
 (.seq (.reg [op 5 (.move (.c (.slice none 0 0)))])
 (.seq (.seq (.reg [op 16 (.faddr 3 (.t 1)), op 17 (.load (.t 16)), op 18 (.lenSl (.t 17)), op 19 (.move (ci 0))])
 (.block 2 (.loop (.seq (.reg [op 20 (.bin .lss (.t 19) (.t 18))])
 (.seq (.cond (.t 20) .skip (.exit 2))
 (.seq (.block 3 (.seq (.reg [mv 21 19, mv 6 21])
 (.seq (.reg [op 22 (.loadN 9 (.t 1)), mv 23 6, op 24 (.call 114 [(.t 22), (.t 23)]), mv 7 24])
 (.seq (.reg [mv 25 4, mv 8 25])
 (.seq (.seq (.reg [op 9 (.move (ci 0))])
 (.block 4 (.loop (.seq (.seq (.reg [mv 26 9, mv 27 7, op 28 (.lenStr (.t 27)), op 29 (.bin .lss (.t 26) (.t 28))])
 (.cond (.t 29) .skip (.exit 4)))
 (.seq (.block 5 (.draw [(op 32 (.faddr 6 (.t 1)), 0), (op 33 (.load (.t 32)), 0), (mv 34 8, 0), (op 35 (.iaddr 1 (.t 33) (.t 34)), 0), (op 36 (.load (.t 35)), 0), (mv 37 7, 0), (mv 38 9, 0), (op 39 (.idxStr (.t 37) (.t 38)), 0), (op 40 (.bin .sub (.t 39) (.c (.int .u8 (.ofNat 97)))), 0), (op 41 (.conv .i64 (.t 40)), 0), (op 42 (.iaddr 1 (.t 36) (.t 41)), 0), (op 43 (.load (.t 42)), 0), (mv 8 43, 0)]))
 (.reg [mv 30 9, op 31 (.bin .add (.t 30) (ci 1)), mv 9 31]))))))
 (.reg [mv 44 5, mv 45 8, op 46 (.buildSlice 3 1 1 [(.int .i64 (.ofNat 0))] [(0, (.t 45))]), op 47 (.append 3 1 8 (.t 44) (.t 46)), mv 5 47]))))))
 (.reg [op 48 (.bin .add (.t 19) (ci 1)), mv 19 48])))))))
 (.reg [mv 49 3, mv 50 5, op 51 (.buildSlice 22 1 1 [(.slice none 0 0)] [(0, (.t 50))]), op 52 (.append 22 1 24 (.t 49) (.t 51)), mv 3 52])))))
 (.reg [op 53 (.bin .add (.t 13) (ci 1)), mv 13 53])))))))
 (.seq (.reg [mv 54 3, mv 2 54])
 .ret))))⟩
theorem c113_ok : cFunc Go.Proofs.Try.prog Go.Proofs.Try.f113 = some c113 := by kernel_rfl
/-- semigroup/semigroupref12.Word -/
def c114 : CFunc := ⟨30, [.tmp 4], (.seq (.reg [op 2 (.box 163 (.t 0)), op 4 (.move (.c (.string ⟨⟨[]⟩⟩)))])
 (.seq (.reg [op 5 (.move (.c (.string ⟨⟨[]⟩⟩)))])
 (.seq (.block 0 (.loop (.seq (.seq (.reg [mv 6 1, op 7 (.bin .geq (.t 6) (ci 0)), mv 8 7, gt 9 (.faddr 5 (.t 2)) 8, gt 10 (.load (.t 9)) 8, gt 11 (.move (.t 1)) 8, gt 12 (.iaddr 1 (.t 10) (.t 11)) 8, gt 13 (.load (.t 12)) 8, gt 14 (.bin .geq (.t 13) (ci 0)) 8, op 15 (.pick (.t 8) (.t 14) (.c (.bool false)))])
 (.cond (.t 15) .skip (.exit 0)))
 (.block 1 (.seq (.reg [op 16 (.faddr 5 (.t 2)), op 17 (.load (.t 16)), mv 18 1, op 19 (.iaddr 1 (.t 17) (.t 18)), op 20 (.load (.t 19)), op 21 (.call 131 [(.t 20)]), mv 22 5, op 23 (.bin .add (.t 21) (.t 22)), mv 5 23])
 (.reg [op 24 (.faddr 4 (.t 2)), op 25 (.load (.t 24)), mv 26 1, op 27 (.iaddr 1 (.t 25) (.t 26)), op 28 (.load (.t 27)), mv 1 28]))))))
 (.seq (.reg [mv 29 5, mv 4 29])
 .ret))))⟩
theorem c114_ok : cFunc Go.Proofs.Try.prog Go.Proofs.Try.f114 = some c114 := by kernel_rfl
/-- semigroup/semigroupref12.Find -/
def c115 : CFunc := ⟨19, [.tmp 4], (.seq (.reg [op 4 (.move (ci 0))])
 (.seq (.seq (.reg [mv 6 0, op 7 (.lenSl (.t 6)), op 8 (.move (ci 0))])
 (.block 0 (.loop (.seq (.reg [op 9 (.bin .lss (.t 8) (.t 7))])
 (.seq (.cond (.t 9) .skip (.exit 0))
 (.seq (.block 1 (.seq (.reg [mv 10 8, mv 5 10])
 (.seq (.reg [mv 11 0, mv 12 5, op 13 (.iaddr 1 (.t 11) (.t 12)), op 14 (.load (.t 13)), mv 15 1, op 16 (.call 79 [(.t 14), (.t 15)])])
 (.cond (.t 16) (.seq (.reg [mv 17 5, mv 4 17])
 .ret) .skip))))
 (.reg [op 18 (.bin .add (.t 8) (ci 1)), mv 8 18])))))))
 (.seq (.reg [op 4 (.move (.c (.int .i64 (.negSucc 0))))])
 .ret)))⟩
theorem c115_ok : cFunc Go.Proofs.Try.prog Go.Proofs.Try.f115 = some c115 := by kernel_rfl
/-- semigroup/semigroupref14.Generated -/
def c116 : CFunc := ⟨60, [.tmp 4], (.seq (.reg [op 4 (.move (.c (.slice none 0 0)))])
 (.seq (.reg [mv 9 1, mv 10 0, op 11 (.lenSl (.t 10)), op 12 (.call 132 [(.t 9), (.t 11)]), mv 5 12])
 (.seq (.seq (.reg [op 6 (.move (.c (.bool true)))])
 (.block 0 (.loop (.seq (.seq (.reg [mv 13 6])
 (.cond (.t 13) .skip (.exit 0)))
 (.block 1 (.seq (.reg [op 6 (.move (.c (.bool false)))])
 (.seq (.reg [mv 14 0, op 15 (.lenSl (.t 14)), op 16 (.move (ci 0))])
 (.block 2 (.loop (.seq (.reg [op 17 (.bin .lss (.t 16) (.t 15))])
 (.seq (.cond (.t 17) .skip (.exit 2))
 (.seq (.block 3 (.seq (.reg [mv 18 16, mv 7 18])
 (.seq (.reg [mv 19 0, op 20 (.lenSl (.t 19)), op 21 (.move (ci 0))])
 (.block 4 (.loop (.seq (.reg [op 22 (.bin .lss (.t 21) (.t 20))])
 (.seq (.cond (.t 22) .skip (.exit 4))
 (.seq (.block 5 (.seq (.reg [mv 23 21, mv 8 23])
 (.seq (.reg [mv 24 5, mv 25 7, op 26 (.iaddr 1 (.t 24) (.t 25)), op 27 (.load (.t 26)), mv 28 27, gt 29 (.move (.t 5)) 28, gt 30 (.move (.t 8)) 28, gt 31 (.iaddr 1 (.t 29) (.t 30)) 28, gt 32 (.load (.t 31)) 28, op 33 (.pick (.t 28) (.t 32) (.c (.bool false))), mv 34 33, gt 35 (.move (.t 5)) 34, gt 36 (.move (.t 0)) 34, gt 37 (.move (.t 7)) 34, gt 38 (.iaddr 1 (.t 36) (.t 37)) 34, gt 39 (.load (.t 38)) 34, gt 40 (.move (.t 8)) 34, gt 41 (.iaddr 1 (.t 39) (.t 40)) 34, gt 42 (.load (.t 41)) 34, gt 43 (.iaddr 1 (.t 35) (.t 42)) 34, gt 44 (.load (.t 43)) 34, gt 45 (.not (.t 44)) 34, op 46 (.pick (.t 34) (.t 45) (.c (.bool false)))])
 (.cond (.t 46) (.seq (.reg [mv 47 5, mv 48 0, mv 49 7, op 50 (.iaddr 1 (.t 48) (.t 49)), op 51 (.load (.t 50)), mv 52 8, op 53 (.iaddr 1 (.t 51) (.t 52)), op 54 (.load (.t 53)), op 55 (.iaddr 1 (.t 47) (.t 54)), ⟨none, .store 1 (.t 55) (.c (.bool true)), none⟩])
 (.reg [op 6 (.move (.c (.bool true)))])) .skip))))
 (.reg [op 56 (.bin .add (.t 21) (ci 1)), mv 21 56])))))))))
 (.reg [op 57 (.bin .add (.t 16) (ci 1)), mv 16 57])))))))))))))
 (.seq (.reg [mv 58 5, op 59 (.call 133 [(.t 58)]), mv 4 59])
 .ret))))⟩
theorem c116_ok : cFunc Go.Proofs.Try.prog Go.Proofs.Try.f116 = some c116 := by kernel_rfl
/-- semigroup/syntactic.valid -/
def c117 : CFunc := ⟨26, [.tmp 2], (.seq (.reg [op 1 (.box 101 (.t 0)), op 2 (.move (.c (.bool false)))])
 (.seq (.reg [op 8 (.loadN 6 (.t 1)), op 9 (.call 134 [(.t 8)]), mv 7 9, op 10 (.extract 0 (.t 7)), op 11 (.extract 1 (.t 7)), op 3 (.alloc 32 [(.int .i64 (.ofNat 0)), (.int .i64 (.ofNat 0)), (.slice none 0 0), (.slice none 0 0)]), ⟨none, .store 4 (.t 3) (.t 10), none⟩, mv 4 11])
 (.seq (.seq (.reg [mv 12 4, op 13 (.not (.t 12))])
 (.cond (.t 13) (.seq (.reg [op 2 (.move (.c (.bool false)))])
 .ret) .skip))
 (.seq (.reg [op 15 (.loadN 4 (.t 3)), op 16 (.call 135 [(.t 15)]), mv 14 16, op 17 (.extract 0 (.t 14)), op 18 (.extract 1 (.t 14)), op 5 (.alloc 101 [(.int .i64 (.ofNat 0)), (.slice none 0 0), (.slice none 0 0), (.slice none 0 0), (.slice none 0 0), (.slice none 0 0)]), ⟨none, .store 6 (.t 5) (.t 17), none⟩, mv 6 18])
 (.seq (.reg [mv 19 6, op 20 (.bin .eql (.t 19) (ci 0)), mv 21 20, gt 22 (.loadN 6 (.t 1)) 21, gt 23 (.loadN 6 (.t 5)) 21, gt 24 (.call 136 [(.t 22), (.t 23)]) 21, op 25 (.pick (.t 21) (.t 24) (.c (.bool false))), mv 2 25])
 .ret)))))⟩
theorem c117_ok : cFunc Go.Proofs.Try.prog Go.Proofs.Try.f117 = some c117 := by kernel_rfl
/-- semigroup/mult.Validate -/
def c118 : CFunc := ⟨21, [.tmp 2], (.seq (.reg [op 2 (.move (ci 0))])
 (.seq (.seq (.reg [mv 8 0, op 9 (.call 137 [(.t 8)]), mv 3 9])
 (.seq (.reg [mv 10 3, op 11 (.bin .neq (.t 10) (ci 0))])
 (.cond (.t 11) (.seq (.reg [mv 12 3, mv 2 12])
 .ret) .skip)))
 (.seq (.seq (.reg [mv 14 0, op 15 (.call 138 [(.t 14)]), mv 13 15, op 16 (.extract 0 (.t 13)), op 17 (.extract 1 (.t 13)), op 18 (.extract 2 (.t 13)), op 19 (.extract 3 (.t 13)), mv 4 16, mv 5 17, mv 6 18, mv 7 19])
 (.seq (.reg [mv 20 7])
 (.cond (.t 20) (.seq (.reg [op 2 (.move (ci 5))])
 .ret) .skip)))
 (.seq (.reg [op 2 (.move (ci 0))])
 .ret))))⟩
theorem c118_ok : cFunc Go.Proofs.Try.prog Go.Proofs.Try.f118 = some c118 := by kernel_rfl
/-- semigroup/mult.center -/
def c119 : CFunc := ⟨43, [.tmp 2], (.seq (.reg [op 2 (.move (.c (.slice none 0 0)))])
 (.seq (.reg [op 3 (.move (.c (.slice none 0 0)))])
 (.seq (.seq (.reg [mv 7 0, op 8 (.lenSl (.t 7)), op 9 (.move (ci 0))])
 (.block 0 (.loop (.seq (.reg [op 10 (.bin .lss (.t 9) (.t 8))])
 (.seq (.cond (.t 10) .skip (.exit 0))
 (.seq (.block 1 (.seq (.reg [mv 11 9, mv 4 11])
 (.seq (.reg [op 5 (.move (.c (.bool true)))])
 (.seq (.seq (.reg [mv 12 0, op 13 (.lenSl (.t 12)), op 14 (.move (ci 0))])
 (.block 2 (.loop (.seq (.reg [op 15 (.bin .lss (.t 14) (.t 13))])
 (.seq (.cond (.t 15) .skip (.exit 2))
 (.seq (.block 3 (.seq (.reg [mv 16 14, mv 6 16])
 (.draw [(mv 17 5, 0), (mv 18 17, 0), (gt 19 (.move (.t 0)) 18, 0), (gt 20 (.move (.t 4)) 18, 0), (gt 21 (.iaddr 1 (.t 19) (.t 20)) 18, 0), (gt 22 (.load (.t 21)) 18, 0), (gt 23 (.move (.t 6)) 18, 0), (gt 24 (.iaddr 1 (.t 22) (.t 23)) 18, 0), (gt 25 (.load (.t 24)) 18, 0), (gt 26 (.move (.t 0)) 18, 0), (gt 27 (.move (.t 6)) 18, 0), (gt 28 (.iaddr 1 (.t 26) (.t 27)) 18, 0), (gt 29 (.load (.t 28)) 18, 0), (gt 30 (.move (.t 4)) 18, 0), (gt 31 (.iaddr 1 (.t 29) (.t 30)) 18, 0), (gt 32 (.load (.t 31)) 18, 0), (gt 33 (.bin .eql (.t 25) (.t 32)) 18, 0), (op 34 (.pick (.t 18) (.t 33) (.c (.bool false))), 0), (mv 5 34, 0)])))
 (.reg [op 35 (.bin .add (.t 14) (ci 1)), mv 14 35])))))))
 (.seq (.reg [mv 36 5])
 (.cond (.t 36) (.reg [mv 37 3, mv 38 4, op 39 (.buildSlice 3 1 1 [(.int .i64 (.ofNat 0))] [(0, (.t 38))]), op 40 (.append 3 1 8 (.t 37) (.t 39)), mv 3 40]) .skip))))))
 (.reg [op 41 (.bin .add (.t 9) (ci 1)), mv 9 41])))))))
 (.seq (.reg [mv 42 3, mv 2 42])
 .ret))))⟩
theorem c119_ok : cFunc Go.Proofs.Try.prog Go.Proofs.Try.f119 = some c119 := by kernel_rfl
/-- semigroup/dfa.Trim -/
def c121 : CFunc := ⟨75, [.cells 4 2, .tmp 3], (.seq (.reg [op 1 (.box 32 (.t 0)), op 2 (.alloc 32 [(.int .i64 (.ofNat 0)), (.int .i64 (.ofNat 0)), (.slice none 0 0), (.slice none 0 0)]), op 3 (.move (.c (.slice none 0 0)))])
 (.seq (.seq (.reg [op 13 (.loadN 4 (.t 1)), op 14 (.call 75 [(.t 13)]), op 15 (.bin .neq (.t 14) (ci 0))])
 (.cond (.t 15) (.seq (.reg [op 16 (.build [(.int .i64 (.ofNat 0)), (.int .i64 (.ofNat 0)), (.slice none 0 0), (.slice none 0 0)] []), ⟨none, .store 4 (.t 2) (.t 16), none⟩, op 3 (.move (.c (.slice none 0 0)))])
 .ret) .skip))
 (.seq (.reg [op 18 (.loadN 4 (.t 1)), op 19 (.call 139 [(.t 18)]), mv 17 19, op 20 (.extract 0 (.t 17)), op 21 (.extract 1 (.t 17)), op 22 (.extract 2 (.t 17)), op 23 (.extract 3 (.t 17)), mv 4 20, mv 5 21, mv 6 22, mv 7 23])
 (.seq (.reg [op 24 (.faddr 0 (.t 1)), op 25 (.load (.t 24)), op 26 (.build [(.int .i64 (.ofNat 0)), (.int .i64 (.ofNat 0)), (.slice none 0 0), (.slice none 0 0)] [(0, 1, (.t 25))]), op 8 (.alloc 32 [(.int .i64 (.ofNat 0)), (.int .i64 (.ofNat 0)), (.slice none 0 0), (.slice none 0 0)]), ⟨none, .store 4 (.t 8) (.t 26), none⟩])
 (.seq (.seq (.reg [mv 27 4, op 28 (.lenSl (.t 27)), op 29 (.move (ci 0))])
 (.block 0 (.loop (.seq (.reg [op 30 (.bin .lss (.t 29) (.t 28))])
 (.seq (.cond (.t 30) .skip (.exit 0))
 (.seq (.block 1 (.seq (.reg [op 31 (.iaddr 1 (.t 27) (.t 29)), op 32 (.load (.t 31)), mv 10 32])
 (.seq (.reg [op 33 (.faddr 0 (.t 1)), op 34 (.load (.t 33)), op 35 (.mkSlice 3 8 1 [(.int .i64 (.ofNat 0))] (.t 34) (.t 34)), mv 11 35])
 (.seq (.seq (.reg [mv 36 11, op 37 (.lenSl (.t 36)), op 38 (.move (ci 0))])
 (.block 2 (.loop (.seq (.reg [op 39 (.bin .lss (.t 38) (.t 37))])
 (.seq (.cond (.t 39) .skip (.exit 2))
 (.seq (.block 3 (.seq (.reg [mv 40 38, mv 12 40])
 (.reg [mv 41 11, mv 42 12, mv 43 7, op 44 (.faddr 3 (.t 1)), op 45 (.load (.t 44)), mv 46 10, op 47 (.iaddr 1 (.t 45) (.t 46)), op 48 (.load (.t 47)), mv 49 12, op 50 (.iaddr 1 (.t 48) (.t 49)), op 51 (.load (.t 50)), op 52 (.iaddr 1 (.t 43) (.t 51)), op 53 (.load (.t 52)), op 54 (.iaddr 1 (.t 41) (.t 42)), ⟨none, .store 1 (.t 54) (.t 53), none⟩])))
 (.reg [op 55 (.bin .add (.t 38) (ci 1)), mv 38 55])))))))
 (.seq (.draw [(op 56 (.faddr 2 (.t 8)), 0), (op 57 (.load (.t 56)), 0), (op 58 (.faddr 2 (.t 1)), 0), (op 59 (.load (.t 58)), 0), (mv 60 10, 0), (op 61 (.iaddr 1 (.t 59) (.t 60)), 0), (op 62 (.load (.t 61)), 0), (op 63 (.buildSlice 4 1 1 [(.bool false)] [(0, (.t 62))]), 0), (op 64 (.append 4 1 1 (.t 57) (.t 63)), 1), (op 65 (.faddr 2 (.t 8)), 1), (⟨none, .store 1 (.t 65) (.t 64), none⟩, 2)])
 (.reg [op 66 (.faddr 3 (.t 8)), op 67 (.load (.t 66)), mv 68 11, op 69 (.buildSlice 22 1 1 [(.slice none 0 0)] [(0, (.t 68))]), op 70 (.append 22 1 24 (.t 67) (.t 69)), op 71 (.faddr 3 (.t 8)), ⟨none, .store 1 (.t 71) (.t 70), none⟩]))))))
 (.reg [op 72 (.bin .add (.t 29) (ci 1)), mv 29 72])))))))
 (.seq (.reg [op 73 (.loadN 4 (.t 8)), mv 74 7, ⟨none, .store 4 (.t 2) (.t 73), none⟩, mv 3 74])
 .ret))))))⟩
theorem c121_ok : cFunc Go.Proofs.Try.prog Go.Proofs.Try.f121 = some c121 := by kernel_rfl
/-- semigroup/minimize.classes -/
def c122 : CFunc := ⟨92, [.tmp 2], (.seq (.reg [op 1 (.box 32 (.t 0)), op 2 (.move (.c (.slice none 0 0)))])
 (.seq (.reg [op 14 (.faddr 2 (.t 1)), op 15 (.load (.t 14)), op 16 (.lenSl (.t 15)), mv 3 16])
 (.seq (.reg [mv 17 3, op 18 (.mkSlice 3 8 1 [(.int .i64 (.ofNat 0))] (.t 17) (.t 17)), mv 4 18])
 (.seq (.seq (.reg [mv 19 4, op 20 (.lenSl (.t 19)), op 21 (.move (ci 0))])
 (.block 0 (.loop (.seq (.reg [op 22 (.bin .lss (.t 21) (.t 20))])
 (.seq (.cond (.t 22) .skip (.exit 0))
 (.seq (.block 1 (.seq (.reg [mv 23 21, mv 5 23])
 (.seq (.reg [op 24 (.faddr 2 (.t 1)), op 25 (.load (.t 24)), mv 26 5, op 27 (.iaddr 1 (.t 25) (.t 26)), op 28 (.load (.t 27))])
 (.cond (.t 28) (.reg [mv 29 4, mv 30 5, op 31 (.iaddr 1 (.t 29) (.t 30)), ⟨none, .store 1 (.t 31) (ci 1), none⟩]) .skip))))
 (.reg [op 32 (.bin .add (.t 21) (ci 1)), mv 21 32])))))))
 (.seq (.reg [mv 33 4, op 34 (.call 140 [(.t 33)]), mv 4 34])
 (.block 2 (.loop (.block 3 (.seq (.reg [op 35 (.mkMap), mv 6 35])
 (.seq (.reg [mv 36 3, op 37 (.mkSlice 3 8 1 [(.int .i64 (.ofNat 0))] (.t 36) (.t 36)), mv 7 37])
 (.seq (.seq (.reg [mv 38 7, op 39 (.lenSl (.t 38)), op 40 (.move (ci 0))])
 (.block 4 (.loop (.seq (.reg [op 41 (.bin .lss (.t 40) (.t 39))])
 (.seq (.cond (.t 41) .skip (.exit 4))
 (.seq (.block 5 (.seq (.reg [mv 42 40, mv 8 42])
 (.seq (.reg [op 9 (.alloc 192 [(.int .i64 (.ofNat 0)), (.int .i64 (.ofNat 0)), (.int .i64 (.ofNat 0)), (.int .i64 (.ofNat 0)), (.int .i64 (.ofNat 0)), (.int .i64 (.ofNat 0)), (.int .i64 (.ofNat 0))])])
 (.seq (.reg [mv 43 4, mv 44 8, op 45 (.iaddr 1 (.t 43) (.t 44)), op 46 (.load (.t 45)), op 47 (.iaddrA 7 1 (.t 9) (ci 0)), ⟨none, .store 1 (.t 47) (.t 46), none⟩])
 (.seq (.seq (.reg [op 48 (.faddr 3 (.t 1)), op 49 (.load (.t 48)), mv 50 8, op 51 (.iaddr 1 (.t 49) (.t 50)), op 52 (.load (.t 51)), op 53 (.lenSl (.t 52)), op 54 (.move (ci 0))])
 (.block 6 (.loop (.seq (.reg [op 55 (.bin .lss (.t 54) (.t 53))])
 (.seq (.cond (.t 55) .skip (.exit 6))
 (.seq (.block 7 (.seq (.reg [mv 56 54, op 57 (.iaddr 1 (.t 52) (.t 54)), op 58 (.load (.t 57)), mv 10 56, mv 11 58])
 (.reg [mv 59 10, op 60 (.bin .add (.t 59) (ci 1)), mv 61 4, mv 62 11, op 63 (.iaddr 1 (.t 61) (.t 62)), op 64 (.load (.t 63)), op 65 (.iaddrA 7 1 (.t 9) (.t 60)), ⟨none, .store 1 (.t 65) (.t 64), none⟩])))
 (.reg [op 66 (.bin .add (.t 54) (ci 1)), mv 54 66])))))))
 (.seq (.reg [mv 68 6, op 69 (.loadN 7 (.t 9)), op 70 (.lookup (.row [.int, .int, .int, .int, .int, .int, .int]) (.int .i64 (.ofNat 0)) true (.t 68) (.t 69)), mv 67 70, op 71 (.extract 0 (.t 67)), op 72 (.extract 1 (.t 67)), mv 12 71, mv 13 72])
 (.seq (.seq (.reg [mv 73 13, op 74 (.not (.t 73))])
 (.cond (.t 74) (.seq (.reg [mv 75 6, op 76 (.lenMap (.t 75)), mv 12 76])
 (.reg [mv 77 6, op 78 (.loadN 7 (.t 9)), mv 79 12, ⟨none, .mapSet (.row [.int, .int, .int, .int, .int, .int, .int]) (.t 77) (.t 78) (.t 79), none⟩])) .skip))
 (.reg [mv 80 7, mv 81 8, mv 82 12, op 83 (.iaddr 1 (.t 80) (.t 81)), ⟨none, .store 1 (.t 83) (.t 82), none⟩]))))))))
 (.reg [op 84 (.bin .add (.t 40) (ci 1)), mv 40 84])))))))
 (.seq (.seq (.reg [mv 85 6, op 86 (.lenMap (.t 85)), mv 87 4, op 88 (.call 123 [(.t 87)]), op 89 (.bin .eql (.t 86) (.t 88))])
 (.cond (.t 89) (.seq (.reg [mv 90 4, mv 2 90])
 .ret) .skip))
 (.reg [mv 91 7, mv 4 91])))))))))))))⟩
theorem c122_ok : cFunc Go.Proofs.Try.prog Go.Proofs.Try.f122 = some c122 := by kernel_rfl
/-- semigroup/partition.Count -/
def c123 : CFunc := ⟨21, [.tmp 2], (.seq (.reg [op 2 (.move (ci 0))])
 (.seq (.seq (.reg [mv 6 0, op 7 (.call 141 [(.t 6)]), op 8 (.not (.t 7))])
 (.cond (.t 8) (.seq (.reg [op 2 (.move (ci 0))])
 .ret) .skip))
 (.seq (.reg [op 3 (.move (ci 0))])
 (.seq (.seq (.reg [mv 9 0, op 10 (.lenSl (.t 9)), op 11 (.move (ci 0))])
 (.block 0 (.loop (.seq (.reg [op 12 (.bin .lss (.t 11) (.t 10))])
 (.seq (.cond (.t 12) .skip (.exit 0))
 (.seq (.block 1 (.seq (.reg [op 13 (.iaddr 1 (.t 9) (.t 11)), op 14 (.load (.t 13)), mv 5 14])
 (.reg [mv 15 3, mv 16 5, op 17 (.bin .add (.t 16) (ci 1)), op 18 (.most false (.t 15) (.t 17)), mv 3 18])))
 (.reg [op 19 (.bin .add (.t 11) (ci 1)), mv 11 19])))))))
 (.seq (.reg [mv 20 3, mv 2 20])
 .ret)))))⟩
theorem c123_ok : cFunc Go.Proofs.Try.prog Go.Proofs.Try.f123 = some c123 := by kernel_rfl
/-- semigroup/semigroupref08.number -/
def c126 : CFunc := Go.EvK.c_ref08_number
theorem c126_ok : cFunc Go.Proofs.Try.prog Go.Proofs.Try.f126 = some c126 := by kernel_rfl
/-- semigroup/semigroupref08.both -/
def c127 : CFunc := Go.EvK.c_ref08_both
theorem c127_ok : cFunc Go.Proofs.Try.prog Go.Proofs.Try.f127 = some c127 := by kernel_rfl
/-- semigroup/semigroupref07.Access -/
def c128 : CFunc := Go.EvK.c_ref07_Access
theorem c128_ok : cFunc Go.Proofs.Try.prog Go.Proofs.Try.f128 = some c128 := by kernel_rfl
/-- semigroup/semigroupref12.Start -/
def c129 : CFunc := ⟨88, [.cells 9 4, .tmp 5], (.seq (.reg [op 4 (.alloc 163 [(.int .i64 (.ofNat 0)), (.bool false), (.slice none 0 0), (.slice none 0 0), (.slice none 0 0), (.slice none 0 0), (.slice none 0 0), (.slice none 0 0), (.int .i64 (.ofNat 0))]), op 5 (.move (ci 0))])
 (.seq (.seq (.reg [mv 11 0, op 12 (.lenSl (.t 11)), op 13 (.bin .lss (.t 12) (ci 1)), mv 14 13, gf 15 (.move (.t 0)) 14, gf 16 (.lenSl (.t 15)) 14, gf 17 (.bin .gtr (.t 16) (ci 6)) 14, op 18 (.pick (.t 14) (.c (.bool true)) (.t 17))])
 (.cond (.t 18) (.seq (.reg [op 19 (.build [(.int .i64 (.ofNat 0)), (.bool false), (.slice none 0 0), (.slice none 0 0), (.slice none 0 0), (.slice none 0 0), (.slice none 0 0), (.slice none 0 0), (.int .i64 (.ofNat 0))] []), ⟨none, .store 9 (.t 4) (.t 19), none⟩, op 5 (.move (ci 1))])
 .ret) .skip))
 (.seq (.seq (.reg [mv 20 0, op 21 (.call 142 [(.t 20)]), op 22 (.not (.t 21))])
 (.cond (.t 22) (.seq (.reg [op 23 (.build [(.int .i64 (.ofNat 0)), (.bool false), (.slice none 0 0), (.slice none 0 0), (.slice none 0 0), (.slice none 0 0), (.slice none 0 0), (.slice none 0 0), (.int .i64 (.ofNat 0))] []), ⟨none, .store 9 (.t 4) (.t 23), none⟩, op 5 (.move (ci 4))])
 .ret) .skip))
 (.seq (.draw [(mv 24 0, 1), (op 25 (.iaddr 1 (.t 24) (ci 0)), 1), (op 26 (.load (.t 25)), 1), (op 27 (.lenSl (.t 26)), 1), (mv 28 1, 1), (mv 29 0, 0), (op 6 (.alloc 163 [(.int .i64 (.ofNat 0)), (.bool false), (.slice none 0 0), (.slice none 0 0), (.slice none 0 0), (.slice none 0 0), (.slice none 0 0), (.slice none 0 0), (.int .i64 (.ofNat 0))]), 1), (op 30 (.call 143 [(.t 29)]), 1), (op 31 (.build [(.int .i64 (.ofNat 0)), (.bool false), (.slice none 0 0), (.slice none 0 0), (.slice none 0 0), (.slice none 0 0), (.slice none 0 0), (.slice none 0 0), (.int .i64 (.ofNat 0))] [(0, 1, (.t 27)), (1, 1, (.t 28)), (2, 1, (.t 30))]), 1), (⟨none, .store 9 (.t 6) (.t 31), none⟩, 2)])
 (.seq (.reg [op 7 (.move (.c (.int .i64 (.negSucc 0))))])
 (.seq (.seq (.reg [mv 32 1])
 (.cond (.t 32) (.seq (.reg [op 33 (.faddr 0 (.t 6)), op 34 (.load (.t 33)), op 35 (.call 144 [(.t 34)]), op 36 (.buildSlice 22 1 1 [(.slice none 0 0)] [(0, (.t 35))]), op 37 (.buildSlice 3 1 1 [(.int .i64 (.ofNat 0))] [(0, (.c (.int .i64 (.negSucc 0))))]), op 38 (.buildSlice 3 1 1 [(.int .i64 (.ofNat 0))] [(0, (.c (.int .i64 (.negSucc 0))))]), op 39 (.faddr 3 (.t 6)), ⟨none, .store 1 (.t 39) (.t 36), none⟩, op 40 (.faddr 4 (.t 6)), ⟨none, .store 1 (.t 40) (.t 37), none⟩, op 41 (.faddr 5 (.t 6)), ⟨none, .store 1 (.t 41) (.t 38), none⟩])
 (.reg [op 7 (.move (ci 0))])) .skip))
 (.seq (.seq (.reg [mv 42 0, op 43 (.lenSl (.t 42)), op 44 (.move (ci 0))])
 (.block 0 (.loop (.seq (.reg [op 45 (.bin .lss (.t 44) (.t 43))])
 (.seq (.cond (.t 45) .skip (.exit 0))
 (.seq (.block 1 (.seq (.reg [mv 46 44, op 47 (.iaddr 1 (.t 42) (.t 44)), op 48 (.load (.t 47)), mv 8 46, mv 9 48])
 (.seq (.reg [op 49 (.faddr 3 (.t 6)), op 50 (.load (.t 49)), mv 51 9, op 52 (.call 115 [(.t 50), (.t 51)]), mv 10 52])
 (.seq (.seq (.reg [mv 53 10, op 54 (.bin .geq (.t 53) (ci 0))])
 (.cond (.t 54) (.seq (.draw [(op 55 (.faddr 7 (.t 6)), 2), (op 56 (.load (.t 55)), 2), (mv 57 8, 0), (op 59 (.loadN 9 (.t 6)), 1), (mv 60 10, 1), (op 58 (.call 131 [(.t 57)]), 1), (op 61 (.call 114 [(.t 59), (.t 60)]), 2), (op 62 (.build [(.string ⟨⟨[]⟩⟩), (.string ⟨⟨[]⟩⟩)] [(0, 1, (.t 58)), (1, 1, (.t 61))]), 2), (op 63 (.buildSlice 197 2 1 [(.string ⟨⟨[]⟩⟩), (.string ⟨⟨[]⟩⟩)] [(0, (.t 62))]), 2), (op 64 (.append 197 2 32 (.t 56) (.t 63)), 3), (op 65 (.faddr 7 (.t 6)), 3), (⟨none, .store 1 (.t 65) (.t 64), none⟩, 4)])
 (.exit 1)) .skip))
 (.draw [(op 66 (.faddr 3 (.t 6)), 1), (op 67 (.load (.t 66)), 1), (op 68 (.buildSlice 3 1 0 [] []), 0), (mv 69 9, 0), (op 73 (.faddr 4 (.t 6)), 2), (op 74 (.load (.t 73)), 2), (mv 75 7, 2), (op 76 (.buildSlice 3 1 1 [(.int .i64 (.ofNat 0))] [(0, (.t 75))]), 2), (op 78 (.faddr 5 (.t 6)), 3), (op 79 (.load (.t 78)), 3), (mv 80 8, 3), (op 81 (.buildSlice 3 1 1 [(.int .i64 (.ofNat 0))] [(0, (.t 80))]), 3), (op 70 (.append 3 1 8 (.t 68) (.t 69)), 1), (op 71 (.buildSlice 22 1 1 [(.slice none 0 0)] [(0, (.t 70))]), 1), (op 72 (.append 22 1 24 (.t 67) (.t 71)), 2), (op 83 (.faddr 3 (.t 6)), 4), (op 77 (.append 3 1 8 (.t 74) (.t 76)), 3), (op 82 (.append 3 1 8 (.t 79) (.t 81)), 4), (⟨none, .store 1 (.t 83) (.t 72), none⟩, 5), (op 84 (.faddr 4 (.t 6)), 5), (⟨none, .store 1 (.t 84) (.t 77), none⟩, 6), (op 85 (.faddr 5 (.t 6)), 6), (⟨none, .store 1 (.t 85) (.t 82), none⟩, 7)])))))
 (.reg [op 86 (.bin .add (.t 44) (ci 1)), mv 44 86])))))))
 (.seq (.reg [op 87 (.loadN 9 (.t 6)), ⟨none, .store 9 (.t 4) (.t 87), none⟩, op 5 (.move (ci 0))])
 .ret))))))))⟩
theorem c129_ok : cFunc Go.Proofs.Try.prog Go.Proofs.Try.f129 = some c129 := by kernel_rfl
/-- semigroup/semigroupref12.process -/
def c130 : CFunc := ⟨191, [.cells 9 4, .tmp 5], (.seq (.reg [op 2 (.box 163 (.t 0)), op 4 (.alloc 163 [(.int .i64 (.ofNat 0)), (.bool false), (.slice none 0 0), (.slice none 0 0), (.slice none 0 0), (.slice none 0 0), (.slice none 0 0), (.slice none 0 0), (.int .i64 (.ofNat 0))]), op 5 (.move (ci 0))])
 (.seq (.draw [(op 18 (.faddr 0 (.t 2)), 5), (op 19 (.load (.t 18)), 5), (op 20 (.faddr 1 (.t 2)), 5), (op 21 (.load (.t 20)), 5), (op 22 (.faddr 2 (.t 2)), 5), (op 23 (.load (.t 22)), 5), (op 24 (.buildSlice 22 1 0 [] []), 0), (op 25 (.faddr 3 (.t 2)), 0), (op 26 (.load (.t 25)), 0), (op 28 (.buildSlice 3 1 0 [] []), 1), (op 29 (.faddr 4 (.t 2)), 1), (op 30 (.load (.t 29)), 1), (op 32 (.buildSlice 3 1 0 [] []), 2), (op 33 (.faddr 5 (.t 2)), 2), (op 34 (.load (.t 33)), 2), (op 36 (.buildSlice 22 1 0 [] []), 3), (op 37 (.faddr 6 (.t 2)), 3), (op 38 (.load (.t 37)), 3), (op 40 (.buildSlice 197 2 0 [] []), 4), (op 41 (.faddr 7 (.t 2)), 4), (op 42 (.load (.t 41)), 4), (op 44 (.faddr 8 (.t 2)), 5), (op 45 (.load (.t 44)), 5), (op 6 (.alloc 163 [(.int .i64 (.ofNat 0)), (.bool false), (.slice none 0 0), (.slice none 0 0), (.slice none 0 0), (.slice none 0 0), (.slice none 0 0), (.slice none 0 0), (.int .i64 (.ofNat 0))]), 5), (op 27 (.append 22 1 24 (.t 24) (.t 26)), 1), (op 31 (.append 3 1 8 (.t 28) (.t 30)), 2), (op 35 (.append 3 1 8 (.t 32) (.t 34)), 3), (op 39 (.append 22 1 24 (.t 36) (.t 38)), 4), (op 43 (.append 197 2 32 (.t 40) (.t 42)), 5), (op 46 (.build [(.int .i64 (.ofNat 0)), (.bool false), (.slice none 0 0), (.slice none 0 0), (.slice none 0 0), (.slice none 0 0), (.slice none 0 0), (.slice none 0 0), (.int .i64 (.ofNat 0))] [(0, 1, (.t 19)), (1, 1, (.t 21)), (2, 1, (.t 23)), (3, 1, (.t 27)), (4, 1, (.t 31)), (5, 1, (.t 35)), (6, 1, (.t 39)), (7, 1, (.t 43)), (8, 1, (.t 45))]), 5), (⟨none, .store 9 (.t 6) (.t 46), none⟩, 6)])
 (.seq (.reg [op 47 (.mkMap), mv 7 47])
 (.seq (.reg [op 8 (.move (.c (.slice none 0 0)))])
 (.seq (.seq (.reg [op 48 (.faddr 3 (.t 6)), op 49 (.load (.t 48)), op 50 (.lenSl (.t 49)), op 51 (.move (ci 0))])
 (.block 0 (.loop (.seq (.reg [op 52 (.bin .lss (.t 51) (.t 50))])
 (.seq (.cond (.t 52) .skip (.exit 0))
 (.seq (.block 1 (.seq (.reg [mv 53 51, mv 9 53])
 (.seq (.reg [mv 54 8, op 55 (.loadN 9 (.t 6)), mv 56 9, op 57 (.call 114 [(.t 55), (.t 56)]), op 58 (.buildSlice 9 1 1 [(.string ⟨⟨[]⟩⟩)] [(0, (.t 57))]), op 59 (.append 9 1 16 (.t 54) (.t 58)), mv 8 59])
 (.reg [mv 60 7, mv 61 8, mv 62 9, op 63 (.iaddr 1 (.t 61) (.t 62)), op 64 (.load (.t 63)), mv 65 9, ⟨none, .mapSet (.one .str) (.t 60) (.t 64) (.t 65), none⟩]))))
 (.reg [op 66 (.bin .add (.t 51) (ci 1)), mv 51 66])))))))
 (.seq (.block 2 (.loop (.seq (.seq (.reg [mv 67 1, op 68 (.bin .gtr (.t 67) (ci 0)), mv 69 68, gt 70 (.faddr 8 (.t 6)) 69, gt 71 (.load (.t 70)) 69, gt 72 (.faddr 3 (.t 6)) 69, gt 73 (.load (.t 72)) 69, gt 74 (.lenSl (.t 73)) 69, gt 75 (.bin .lss (.t 71) (.t 74)) 69, op 76 (.pick (.t 69) (.t 75) (.c (.bool false)))])
 (.cond (.t 76) .skip (.exit 2)))
 (.seq (.block 3 (.seq (.reg [op 10 (.move (.c (.slice none 0 0)))])
 (.seq (.reg [mv 79 8, op 80 (.faddr 8 (.t 6)), op 81 (.load (.t 80)), op 82 (.iaddr 1 (.t 79) (.t 81)), op 83 (.load (.t 82)), mv 11 83])
 (.seq (.seq (.reg [op 84 (.faddr 2 (.t 6)), op 85 (.load (.t 84)), op 86 (.lenSl (.t 85)), op 87 (.move (ci 0))])
 (.block 4 (.loop (.seq (.reg [op 88 (.bin .lss (.t 87) (.t 86))])
 (.seq (.cond (.t 88) .skip (.exit 4))
 (.seq (.block 5 (.seq (.reg [mv 89 87, mv 12 89])
 (.seq (.draw [(op 90 (.faddr 3 (.t 6)), 0), (op 91 (.load (.t 90)), 0), (op 92 (.faddr 8 (.t 6)), 0), (op 93 (.load (.t 92)), 0), (op 94 (.iaddr 1 (.t 91) (.t 93)), 0), (op 95 (.load (.t 94)), 0), (op 96 (.faddr 2 (.t 6)), 0), (op 97 (.load (.t 96)), 0), (mv 98 12, 0), (op 99 (.iaddr 1 (.t 97) (.t 98)), 0), (op 100 (.load (.t 99)), 0), (op 101 (.call 145 [(.t 95), (.t 100)]), 1), (mv 13 101, 1)])
 (.seq (.reg [op 102 (.faddr 3 (.t 6)), op 103 (.load (.t 102)), mv 104 13, op 105 (.call 115 [(.t 103), (.t 104)]), mv 14 105])
 (.seq (.reg [mv 106 11, mv 107 12, op 108 (.call 131 [(.t 107)]), op 109 (.bin .add (.t 106) (.t 108)), mv 15 109])
 (.seq (.seq (.reg [mv 110 14, op 111 (.bin .lss (.t 110) (ci 0))])
 (.cond (.t 111) (.seq (.seq (.reg [op 112 (.faddr 3 (.t 6)), op 113 (.load (.t 112)), op 114 (.lenSl (.t 113)), op 115 (.bin .eql (.t 114) (ci 2000))])
 (.cond (.t 115) (.seq (.reg [op 116 (.build [(.int .i64 (.ofNat 0)), (.bool false), (.slice none 0 0), (.slice none 0 0), (.slice none 0 0), (.slice none 0 0), (.slice none 0 0), (.slice none 0 0), (.int .i64 (.ofNat 0))] []), ⟨none, .store 9 (.t 4) (.t 116), none⟩, op 5 (.move (ci 3))])
 .ret) .skip))
 (.seq (.reg [op 117 (.faddr 3 (.t 6)), op 118 (.load (.t 117)), op 119 (.lenSl (.t 118)), mv 14 119])
 (.seq (.draw [(op 120 (.faddr 3 (.t 6)), 0), (op 121 (.load (.t 120)), 0), (mv 122 13, 0), (op 123 (.buildSlice 22 1 1 [(.slice none 0 0)] [(0, (.t 122))]), 0), (op 125 (.faddr 4 (.t 6)), 1), (op 126 (.load (.t 125)), 1), (op 127 (.faddr 8 (.t 6)), 1), (op 128 (.load (.t 127)), 1), (op 129 (.buildSlice 3 1 1 [(.int .i64 (.ofNat 0))] [(0, (.t 128))]), 1), (op 131 (.faddr 5 (.t 6)), 2), (op 132 (.load (.t 131)), 2), (mv 133 12, 2), (op 134 (.buildSlice 3 1 1 [(.int .i64 (.ofNat 0))] [(0, (.t 133))]), 2), (op 124 (.append 22 1 24 (.t 121) (.t 123)), 1), (op 136 (.faddr 3 (.t 6)), 3), (op 130 (.append 3 1 8 (.t 126) (.t 129)), 2), (op 135 (.append 3 1 8 (.t 132) (.t 134)), 3), (⟨none, .store 1 (.t 136) (.t 124), none⟩, 4), (op 137 (.faddr 4 (.t 6)), 4), (⟨none, .store 1 (.t 137) (.t 130), none⟩, 5), (op 138 (.faddr 5 (.t 6)), 5), (⟨none, .store 1 (.t 138) (.t 135), none⟩, 6)])
 (.seq (.reg [mv 139 8, mv 140 15, op 141 (.buildSlice 9 1 1 [(.string ⟨⟨[]⟩⟩)] [(0, (.t 140))]), op 142 (.append 9 1 16 (.t 139) (.t 141)), mv 8 142])
 (.reg [mv 143 7, mv 144 15, mv 145 14, ⟨none, .mapSet (.one .str) (.t 143) (.t 144) (.t 145), none⟩]))))) (.seq (.reg [mv 146 11, op 147 (.bin .neq (.t 146) (.c (.string ⟨⟨[]⟩⟩))), mv 148 147, gt 149 (.move (.t 8)) 148, gt 150 (.move (.t 14)) 148, gt 151 (.iaddr 1 (.t 149) (.t 150)) 148, gt 152 (.load (.t 151)) 148, gt 153 (.move (.t 15)) 148, gt 154 (.bin .neq (.t 152) (.t 153)) 148, op 155 (.pick (.t 148) (.t 154) (.c (.bool false)))])
 (.cond (.t 155) (.seq (.reg [mv 157 7, mv 158 15, op 159 (.sub (.t 158) (some (ci 1)) none), op 160 (.lookup (.one .str) (.int .i64 (.ofNat 0)) true (.t 157) (.t 159)), mv 156 160, op 161 (.extract 0 (.t 156)), op 162 (.extract 1 (.t 156)), mv 16 161, mv 17 162])
 (.seq (.reg [mv 163 17])
 (.cond (.t 163) (.draw [(op 164 (.faddr 7 (.t 6)), 0), (op 165 (.load (.t 164)), 0), (mv 166 15, 0), (mv 167 8, 0), (mv 168 14, 0), (op 169 (.iaddr 1 (.t 167) (.t 168)), 0), (op 170 (.load (.t 169)), 0), (op 171 (.build [(.string ⟨⟨[]⟩⟩), (.string ⟨⟨[]⟩⟩)] [(0, 1, (.t 166)), (1, 1, (.t 170))]), 0), (op 172 (.buildSlice 197 2 1 [(.string ⟨⟨[]⟩⟩), (.string ⟨⟨[]⟩⟩)] [(0, (.t 171))]), 0), (op 173 (.append 197 2 32 (.t 165) (.t 172)), 1), (op 174 (.faddr 7 (.t 6)), 1), (⟨none, .store 1 (.t 174) (.t 173), none⟩, 2)]) .skip))) .skip))))
 (.reg [mv 175 10, mv 176 14, op 177 (.buildSlice 3 1 1 [(.int .i64 (.ofNat 0))] [(0, (.t 176))]), op 178 (.append 3 1 8 (.t 175) (.t 177)), mv 10 178])))))))
 (.reg [op 179 (.bin .add (.t 87) (ci 1)), mv 87 179])))))))
 (.seq (.reg [op 180 (.faddr 6 (.t 6)), op 181 (.load (.t 180)), mv 182 10, op 183 (.buildSlice 22 1 1 [(.slice none 0 0)] [(0, (.t 182))]), op 184 (.append 22 1 24 (.t 181) (.t 183)), op 185 (.faddr 6 (.t 6)), ⟨none, .store 1 (.t 185) (.t 184), none⟩])
 (.reg [op 186 (.faddr 8 (.t 6)), op 187 (.load (.t 186)), op 188 (.bin .add (.t 187) (ci 1)), op 189 (.faddr 8 (.t 6)), ⟨none, .store 1 (.t 189) (.t 188), none⟩]))))))
 (.reg [mv 77 1, op 78 (.bin .sub (.t 77) (ci 1)), mv 1 78])))))
 (.seq (.reg [op 190 (.loadN 9 (.t 6)), ⟨none, .store 9 (.t 4) (.t 190), none⟩, op 5 (.move (ci 0))])
 .ret)))))))⟩
theorem c130_ok : cFunc Go.Proofs.Try.prog Go.Proofs.Try.f130 = some c130 := by kernel_rfl
/-- semigroup/semigroupref12.letter -/
def c131 : CFunc := ⟨8, [.tmp 2], (.seq (.reg [op 2 (.move (.c (.string ⟨⟨[]⟩⟩)))])
 (.seq (.reg [mv 3 0, op 4 (.bin .add (ci 97) (.t 3)), op 5 (.conv .u8 (.t 4)), op 6 (.buildSlice 5 1 1 [(.int .u8 (.ofNat 0))] [(0, (.t 5))]), op 7 (.strOf (.t 6)), mv 2 7])
 .ret))⟩
theorem c131_ok : cFunc Go.Proofs.Try.prog Go.Proofs.Try.f131 = some c131 := by kernel_rfl
/-- semigroup/semigroupref03.Set -/
def c132 : CFunc := ⟨28, [.tmp 4], (.seq (.reg [op 4 (.move (.c (.slice none 0 0)))])
 (.seq (.reg [mv 8 1, op 9 (.mkSlice 4 1 1 [(.bool false)] (.t 8) (.t 8)), mv 5 9])
 (.seq (.seq (.reg [mv 10 0, op 11 (.lenSl (.t 10)), op 12 (.move (ci 0))])
 (.block 0 (.loop (.seq (.reg [op 13 (.bin .lss (.t 12) (.t 11))])
 (.seq (.cond (.t 13) .skip (.exit 0))
 (.seq (.block 1 (.seq (.reg [op 14 (.iaddr 1 (.t 10) (.t 12)), op 15 (.load (.t 14)), mv 7 15])
 (.seq (.reg [mv 16 7, op 17 (.bin .geq (.t 16) (ci 0)), mv 18 17, gt 19 (.move (.t 7)) 18, gt 20 (.move (.t 1)) 18, gt 21 (.bin .lss (.t 19) (.t 20)) 18, op 22 (.pick (.t 18) (.t 21) (.c (.bool false)))])
 (.cond (.t 22) (.reg [mv 23 5, mv 24 7, op 25 (.iaddr 1 (.t 23) (.t 24)), ⟨none, .store 1 (.t 25) (.c (.bool true)), none⟩]) .skip))))
 (.reg [op 26 (.bin .add (.t 12) (ci 1)), mv 12 26])))))))
 (.seq (.reg [mv 27 5, mv 4 27])
 .ret))))⟩
theorem c132_ok : cFunc Go.Proofs.Try.prog Go.Proofs.Try.f132 = some c132 := by kernel_rfl
/-- semigroup/semigroupref03.Members -/
def c133 : CFunc := ⟨20, [.tmp 2], (.seq (.reg [op 2 (.move (.c (.slice none 0 0)))])
 (.seq (.reg [op 3 (.move (.c (.slice none 0 0)))])
 (.seq (.seq (.reg [mv 6 0, op 7 (.lenSl (.t 6)), op 8 (.move (ci 0))])
 (.block 0 (.loop (.seq (.reg [op 9 (.bin .lss (.t 8) (.t 7))])
 (.seq (.cond (.t 9) .skip (.exit 0))
 (.seq (.block 1 (.seq (.reg [mv 10 8, op 11 (.iaddr 1 (.t 6) (.t 8)), op 12 (.load (.t 11)), mv 4 10, mv 5 12])
 (.seq (.reg [mv 13 5])
 (.cond (.t 13) (.reg [mv 14 3, mv 15 4, op 16 (.buildSlice 3 1 1 [(.int .i64 (.ofNat 0))] [(0, (.t 15))]), op 17 (.append 3 1 8 (.t 14) (.t 16)), mv 3 17]) .skip))))
 (.reg [op 18 (.bin .add (.t 8) (ci 1)), mv 8 18])))))))
 (.seq (.reg [mv 19 3, mv 2 19])
 .ret))))⟩
theorem c133_ok : cFunc Go.Proofs.Try.prog Go.Proofs.Try.f133 = some c133 := by kernel_rfl
/-- semigroup/syntactic.automaton -/
def c134 : CFunc := ⟨151, [.cells 4 2, .tmp 3], (.seq (.reg [op 1 (.box 101 (.t 0)), op 2 (.alloc 32 [(.int .i64 (.ofNat 0)), (.int .i64 (.ofNat 0)), (.slice none 0 0), (.slice none 0 0)]), op 3 (.move (.c (.bool false)))])
 (.seq (.reg [op 17 (.faddr 1 (.t 1)), op 18 (.load (.t 17)), op 19 (.lenSl (.t 18)), mv 4 19])
 (.seq (.seq (.reg [mv 20 4, op 21 (.bin .eql (.t 20) (ci 0)), mv 22 21, gf 23 (.move (.t 4)) 22, gf 24 (.bin .gtr (.t 23) (ci 400)) 22, op 25 (.pick (.t 22) (.c (.bool true)) (.t 24)), mv 26 25, gf 27 (.faddr 0 (.t 1)) 26, gf 28 (.load (.t 27)) 26, gf 29 (.bin .lss (.t 28) (ci 1)) 26, op 30 (.pick (.t 26) (.c (.bool true)) (.t 29)), mv 31 30, gf 32 (.faddr 0 (.t 1)) 31, gf 33 (.load (.t 32)) 31, gf 34 (.bin .gtr (.t 33) (ci 6)) 31, op 35 (.pick (.t 31) (.c (.bool true)) (.t 34)), mv 36 35, gf 37 (.faddr 3 (.t 1)) 36, gf 38 (.load (.t 37)) 36, gf 39 (.lenSl (.t 38)) 36, gf 40 (.faddr 0 (.t 1)) 36, gf 41 (.load (.t 40)) 36, gf 42 (.bin .neq (.t 39) (.t 41)) 36, op 43 (.pick (.t 36) (.c (.bool true)) (.t 42)), mv 44 43, gf 45 (.faddr 2 (.t 1)) 44, gf 46 (.load (.t 45)) 44, gf 47 (.lenSl (.t 46)) 44, gf 48 (.move (.t 4)) 44, gf 49 (.bin .neq (.t 47) (.t 48)) 44, op 50 (.pick (.t 44) (.c (.bool true)) (.t 49)), mv 51 50, gf 52 (.faddr 4 (.t 1)) 51, gf 53 (.load (.t 52)) 51, gf 54 (.lenSl (.t 53)) 51, gf 55 (.move (.t 4)) 51, gf 56 (.bin .neq (.t 54) (.t 55)) 51, op 57 (.pick (.t 51) (.c (.bool true)) (.t 56)), mv 58 57, gf 59 (.faddr 5 (.t 1)) 58, gf 60 (.load (.t 59)) 58, gf 61 (.lenSl (.t 60)) 58, gf 62 (.move (.t 4)) 58, gf 63 (.bin .neq (.t 61) (.t 62)) 58, op 64 (.pick (.t 58) (.c (.bool true)) (.t 63))])
 (.cond (.t 64) (.seq (.reg [op 65 (.build [(.int .i64 (.ofNat 0)), (.int .i64 (.ofNat 0)), (.slice none 0 0), (.slice none 0 0)] []), ⟨none, .store 4 (.t 2) (.t 65), none⟩, op 3 (.move (.c (.bool false)))])
 .ret) .skip))
 (.seq (.seq (.reg [op 66 (.faddr 1 (.t 1)), op 67 (.load (.t 66)), op 68 (.lenSl (.t 67)), op 69 (.move (ci 0))])
 (.block 0 (.loop (.seq (.reg [op 70 (.bin .lss (.t 69) (.t 68))])
 (.seq (.cond (.t 70) .skip (.exit 0))
 (.seq (.block 1 (.seq (.reg [op 71 (.iaddr 1 (.t 67) (.t 69)), op 72 (.load (.t 71)), mv 6 72])
 (.seq (.seq (.reg [mv 73 6, op 74 (.lenSl (.t 73)), mv 75 4, op 76 (.bin .neq (.t 74) (.t 75))])
 (.cond (.t 76) (.seq (.reg [op 77 (.build [(.int .i64 (.ofNat 0)), (.int .i64 (.ofNat 0)), (.slice none 0 0), (.slice none 0 0)] []), ⟨none, .store 4 (.t 2) (.t 77), none⟩, op 3 (.move (.c (.bool false)))])
 .ret) .skip))
 (.seq (.reg [mv 78 6, op 79 (.lenSl (.t 78)), op 80 (.move (ci 0))])
 (.block 2 (.loop (.seq (.reg [op 81 (.bin .lss (.t 80) (.t 79))])
 (.seq (.cond (.t 81) .skip (.exit 2))
 (.seq (.block 3 (.seq (.reg [op 82 (.iaddr 1 (.t 78) (.t 80)), op 83 (.load (.t 82)), mv 8 83])
 (.seq (.reg [mv 84 8, op 85 (.bin .lss (.t 84) (ci 0)), mv 86 85, gf 87 (.move (.t 8)) 86, gf 88 (.move (.t 4)) 86, gf 89 (.bin .geq (.t 87) (.t 88)) 86, op 90 (.pick (.t 86) (.c (.bool true)) (.t 89))])
 (.cond (.t 90) (.seq (.reg [op 91 (.build [(.int .i64 (.ofNat 0)), (.int .i64 (.ofNat 0)), (.slice none 0 0), (.slice none 0 0)] []), ⟨none, .store 4 (.t 2) (.t 91), none⟩, op 3 (.move (.c (.bool false)))])
 .ret) .skip))))
 (.reg [op 92 (.bin .add (.t 80) (ci 1)), mv 80 92]))))))))))
 (.reg [op 93 (.bin .add (.t 69) (ci 1)), mv 69 93])))))))
 (.seq (.seq (.reg [op 94 (.faddr 3 (.t 1)), op 95 (.load (.t 94)), op 96 (.lenSl (.t 95)), op 97 (.move (ci 0))])
 (.block 4 (.loop (.seq (.reg [op 98 (.bin .lss (.t 97) (.t 96))])
 (.seq (.cond (.t 98) .skip (.exit 4))
 (.seq (.block 5 (.seq (.reg [op 99 (.iaddr 1 (.t 95) (.t 97)), op 100 (.load (.t 99)), mv 10 100])
 (.seq (.reg [mv 101 10, op 102 (.bin .lss (.t 101) (ci 0)), mv 103 102, gf 104 (.move (.t 10)) 103, gf 105 (.move (.t 4)) 103, gf 106 (.bin .geq (.t 104) (.t 105)) 103, op 107 (.pick (.t 103) (.c (.bool true)) (.t 106))])
 (.cond (.t 107) (.seq (.reg [op 108 (.build [(.int .i64 (.ofNat 0)), (.int .i64 (.ofNat 0)), (.slice none 0 0), (.slice none 0 0)] []), ⟨none, .store 4 (.t 2) (.t 108), none⟩, op 3 (.move (.c (.bool false)))])
 .ret) .skip))))
 (.reg [op 109 (.bin .add (.t 97) (ci 1)), mv 97 109])))))))
 (.seq (.draw [(op 110 (.faddr 0 (.t 1)), 1), (op 111 (.load (.t 110)), 1), (op 112 (.buildSlice 4 1 0 [] []), 0), (op 113 (.faddr 4 (.t 1)), 0), (op 114 (.load (.t 113)), 0), (op 11 (.alloc 32 [(.int .i64 (.ofNat 0)), (.int .i64 (.ofNat 0)), (.slice none 0 0), (.slice none 0 0)]), 1), (op 115 (.append 4 1 1 (.t 112) (.t 114)), 1), (op 116 (.build [(.int .i64 (.ofNat 0)), (.int .i64 (.ofNat 0)), (.slice none 0 0), (.slice none 0 0)] [(0, 1, (.t 111)), (2, 1, (.t 115))]), 1), (⟨none, .store 4 (.t 11) (.t 116), none⟩, 2)])
 (.seq (.seq (.reg [op 117 (.faddr 1 (.t 1)), op 118 (.load (.t 117)), op 119 (.lenSl (.t 118)), op 120 (.move (ci 0))])
 (.block 6 (.loop (.seq (.reg [op 121 (.bin .lss (.t 120) (.t 119))])
 (.seq (.cond (.t 121) .skip (.exit 6))
 (.seq (.block 7 (.seq (.reg [op 122 (.iaddr 1 (.t 118) (.t 120)), op 123 (.load (.t 122)), mv 13 123])
 (.seq (.reg [op 124 (.faddr 0 (.t 1)), op 125 (.load (.t 124)), op 126 (.mkSlice 3 8 1 [(.int .i64 (.ofNat 0))] (.t 125) (.t 125)), mv 14 126])
 (.seq (.seq (.reg [op 127 (.faddr 3 (.t 1)), op 128 (.load (.t 127)), op 129 (.lenSl (.t 128)), op 130 (.move (ci 0))])
 (.block 8 (.loop (.seq (.reg [op 131 (.bin .lss (.t 130) (.t 129))])
 (.seq (.cond (.t 131) .skip (.exit 8))
 (.seq (.block 9 (.seq (.reg [mv 132 130, op 133 (.iaddr 1 (.t 128) (.t 130)), op 134 (.load (.t 133)), mv 15 132, mv 16 134])
 (.reg [mv 135 14, mv 136 15, mv 137 13, mv 138 16, op 139 (.iaddr 1 (.t 137) (.t 138)), op 140 (.load (.t 139)), op 141 (.iaddr 1 (.t 135) (.t 136)), ⟨none, .store 1 (.t 141) (.t 140), none⟩])))
 (.reg [op 142 (.bin .add (.t 130) (ci 1)), mv 130 142])))))))
 (.reg [op 143 (.faddr 3 (.t 11)), op 144 (.load (.t 143)), mv 145 14, op 146 (.buildSlice 22 1 1 [(.slice none 0 0)] [(0, (.t 145))]), op 147 (.append 22 1 24 (.t 144) (.t 146)), op 148 (.faddr 3 (.t 11)), ⟨none, .store 1 (.t 148) (.t 147), none⟩])))))
 (.reg [op 149 (.bin .add (.t 120) (ci 1)), mv 120 149])))))))
 (.seq (.reg [op 150 (.loadN 4 (.t 11)), ⟨none, .store 4 (.t 2) (.t 150), none⟩, op 3 (.move (.c (.bool true)))])
 .ret))))))))⟩
theorem c134_ok : cFunc Go.Proofs.Try.prog Go.Proofs.Try.f134 = some c134 := by kernel_rfl
/-- semigroup/syntactic.of -/
def c135 : CFunc := ⟨59, [.cells 6 2, .tmp 3], (.seq (.reg [op 1 (.box 32 (.t 0)), op 2 (.alloc 101 [(.int .i64 (.ofNat 0)), (.slice none 0 0), (.slice none 0 0), (.slice none 0 0), (.slice none 0 0), (.slice none 0 0)]), op 3 (.move (ci 0))])
 (.seq (.reg [op 11 (.loadN 4 (.t 1)), op 12 (.call 78 [(.t 11)]), op 4 (.alloc 32 [(.int .i64 (.ofNat 0)), (.int .i64 (.ofNat 0)), (.slice none 0 0), (.slice none 0 0)]), ⟨none, .store 4 (.t 4) (.t 12), none⟩])
 (.seq (.seq (.reg [op 13 (.faddr 2 (.t 4)), op 14 (.load (.t 13)), op 15 (.lenSl (.t 14)), op 16 (.bin .gtr (.t 15) (ci 32))])
 (.cond (.t 16) (.seq (.reg [op 17 (.build [(.int .i64 (.ofNat 0)), (.slice none 0 0), (.slice none 0 0), (.slice none 0 0), (.slice none 0 0), (.slice none 0 0)] []), ⟨none, .store 6 (.t 2) (.t 17), none⟩, op 3 (.move (ci 3))])
 .ret) .skip))
 (.seq (.reg [op 19 (.loadN 4 (.t 4)), op 20 (.call 146 [(.t 19)]), mv 18 20, op 21 (.extract 0 (.t 18)), op 22 (.extract 1 (.t 18)), mv 5 21, mv 6 22])
 (.seq (.seq (.reg [mv 23 6, op 24 (.bin .neq (.t 23) (ci 0))])
 (.cond (.t 24) (.seq (.reg [op 25 (.build [(.int .i64 (.ofNat 0)), (.slice none 0 0), (.slice none 0 0), (.slice none 0 0), (.slice none 0 0), (.slice none 0 0)] []), mv 26 6, ⟨none, .store 6 (.t 2) (.t 25), none⟩, mv 3 26])
 .ret) .skip))
 (.seq (.reg [mv 28 5, op 29 (.call 147 [(.t 28)]), mv 27 29, op 30 (.extract 0 (.t 27)), op 31 (.extract 1 (.t 27)), op 32 (.extract 2 (.t 27)), op 7 (.alloc 101 [(.int .i64 (.ofNat 0)), (.slice none 0 0), (.slice none 0 0), (.slice none 0 0), (.slice none 0 0), (.slice none 0 0)]), op 8 (.alloc 163 [(.int .i64 (.ofNat 0)), (.bool false), (.slice none 0 0), (.slice none 0 0), (.slice none 0 0), (.slice none 0 0), (.slice none 0 0), (.slice none 0 0), (.int .i64 (.ofNat 0))]), ⟨none, .store 6 (.t 7) (.t 30), none⟩, ⟨none, .store 9 (.t 8) (.t 31), none⟩, mv 6 32])
 (.seq (.seq (.reg [mv 33 6, op 34 (.bin .neq (.t 33) (ci 0))])
 (.cond (.t 34) (.seq (.reg [op 35 (.build [(.int .i64 (.ofNat 0)), (.slice none 0 0), (.slice none 0 0), (.slice none 0 0), (.slice none 0 0), (.slice none 0 0)] []), ⟨none, .store 6 (.t 2) (.t 35), none⟩, op 3 (.move (ci 3))])
 .ret) .skip))
 (.seq (.seq (.reg [op 36 (.faddr 3 (.t 8)), op 37 (.load (.t 36)), op 38 (.lenSl (.t 37)), op 39 (.move (ci 0))])
 (.block 0 (.loop (.seq (.reg [op 40 (.bin .lss (.t 39) (.t 38))])
 (.seq (.cond (.t 40) .skip (.exit 0))
 (.seq (.block 1 (.seq (.reg [op 41 (.iaddr 1 (.t 37) (.t 39)), op 42 (.load (.t 41)), mv 10 42])
 (.draw [(op 43 (.faddr 4 (.t 7)), 0), (op 44 (.load (.t 43)), 0), (op 45 (.faddr 2 (.t 4)), 0), (op 46 (.load (.t 45)), 0), (mv 47 10, 0), (op 48 (.faddr 1 (.t 4)), 0), (op 49 (.load (.t 48)), 0), (op 50 (.iaddr 1 (.t 47) (.t 49)), 0), (op 51 (.load (.t 50)), 0), (op 52 (.iaddr 1 (.t 46) (.t 51)), 0), (op 53 (.load (.t 52)), 0), (op 54 (.buildSlice 4 1 1 [(.bool false)] [(0, (.t 53))]), 0), (op 55 (.append 4 1 1 (.t 44) (.t 54)), 1), (op 56 (.faddr 4 (.t 7)), 1), (⟨none, .store 1 (.t 56) (.t 55), none⟩, 2)])))
 (.reg [op 57 (.bin .add (.t 39) (ci 1)), mv 39 57])))))))
 (.seq (.reg [op 58 (.loadN 6 (.t 7)), ⟨none, .store 6 (.t 2) (.t 58), none⟩, op 3 (.move (ci 0))])
 .ret)))))))))⟩
theorem c135_ok : cFunc Go.Proofs.Try.prog Go.Proofs.Try.f135 = some c135 := by kernel_rfl
/-- semigroup/syntactic.same -/
def c136 : CFunc := ⟨101, [.tmp 4], (.seq (.reg [op 2 (.box 101 (.t 0)), op 3 (.box 101 (.t 1)), op 4 (.move (.c (.bool false)))])
 (.seq (.seq (.reg [op 8 (.faddr 1 (.t 2)), op 9 (.load (.t 8)), op 10 (.lenSl (.t 9)), op 11 (.faddr 1 (.t 3)), op 12 (.load (.t 11)), op 13 (.lenSl (.t 12)), op 14 (.bin .neq (.t 10) (.t 13))])
 (.cond (.t 14) (.seq (.reg [op 4 (.move (.c (.bool false)))])
 .ret) .skip))
 (.seq (.seq (.reg [op 15 (.faddr 1 (.t 2)), op 16 (.load (.t 15)), op 17 (.lenSl (.t 16)), op 18 (.move (ci 0))])
 (.block 0 (.loop (.seq (.reg [op 19 (.bin .lss (.t 18) (.t 17))])
 (.seq (.cond (.t 19) .skip (.exit 0))
 (.seq (.block 1 (.seq (.reg [mv 20 18, mv 5 20])
 (.seq (.seq (.draw [(op 21 (.faddr 2 (.t 2)), 0), (op 22 (.load (.t 21)), 0), (mv 23 5, 0), (op 24 (.iaddr 1 (.t 22) (.t 23)), 0), (op 25 (.load (.t 24)), 0), (op 26 (.faddr 2 (.t 3)), 0), (op 27 (.load (.t 26)), 0), (mv 28 5, 0), (op 29 (.iaddr 1 (.t 27) (.t 28)), 0), (op 30 (.load (.t 29)), 0), (op 31 (.bin .neq (.t 25) (.t 30)), 0), (mv 32 31, 0), (gf 33 (.faddr 4 (.t 2)) 32, 0), (gf 34 (.load (.t 33)) 32, 0), (gf 35 (.move (.t 5)) 32, 0), (gf 36 (.iaddr 1 (.t 34) (.t 35)) 32, 0), (gf 37 (.load (.t 36)) 32, 0), (gf 38 (.faddr 4 (.t 3)) 32, 0), (gf 39 (.load (.t 38)) 32, 0), (gf 40 (.move (.t 5)) 32, 0), (gf 41 (.iaddr 1 (.t 39) (.t 40)) 32, 0), (gf 42 (.load (.t 41)) 32, 0), (gf 43 (.eqB true (.t 37) (.t 42)) 32, 0), (op 44 (.pick (.t 32) (.c (.bool true)) (.t 43)), 0), (mv 45 44, 0), (gf 46 (.faddr 5 (.t 2)) 45, 0), (gf 47 (.load (.t 46)) 45, 0), (gf 48 (.move (.t 5)) 45, 0), (gf 49 (.iaddr 1 (.t 47) (.t 48)) 45, 0), (gf 50 (.load (.t 49)) 45, 0), (gf 51 (.faddr 5 (.t 3)) 45, 0), (gf 52 (.load (.t 51)) 45, 0), (gf 53 (.move (.t 5)) 45, 0), (gf 54 (.iaddr 1 (.t 52) (.t 53)) 45, 0), (gf 55 (.load (.t 54)) 45, 0), (gf 56 (.eqB true (.t 50) (.t 55)) 45, 0), (op 57 (.pick (.t 45) (.c (.bool true)) (.t 56)), 0)])
 (.cond (.t 57) (.seq (.reg [op 4 (.move (.c (.bool false)))])
 .ret) .skip))
 (.seq (.reg [op 58 (.faddr 1 (.t 2)), op 59 (.load (.t 58)), op 60 (.lenSl (.t 59)), op 61 (.move (ci 0))])
 (.block 2 (.loop (.seq (.reg [op 62 (.bin .lss (.t 61) (.t 60))])
 (.seq (.cond (.t 62) .skip (.exit 2))
 (.seq (.block 3 (.seq (.reg [mv 63 61, mv 6 63])
 (.seq (.draw [(op 64 (.faddr 1 (.t 2)), 0), (op 65 (.load (.t 64)), 0), (mv 66 5, 0), (op 67 (.iaddr 1 (.t 65) (.t 66)), 0), (op 68 (.load (.t 67)), 0), (mv 69 6, 0), (op 70 (.iaddr 1 (.t 68) (.t 69)), 0), (op 71 (.load (.t 70)), 0), (op 72 (.faddr 1 (.t 3)), 0), (op 73 (.load (.t 72)), 0), (mv 74 5, 0), (op 75 (.iaddr 1 (.t 73) (.t 74)), 0), (op 76 (.load (.t 75)), 0), (mv 77 6, 0), (op 78 (.iaddr 1 (.t 76) (.t 77)), 0), (op 79 (.load (.t 78)), 0), (op 80 (.bin .neq (.t 71) (.t 79)), 0)])
 (.cond (.t 80) (.seq (.reg [op 4 (.move (.c (.bool false)))])
 .ret) .skip))))
 (.reg [op 81 (.bin .add (.t 61) (ci 1)), mv 61 81]))))))))))
 (.reg [op 82 (.bin .add (.t 18) (ci 1)), mv 18 82])))))))
 (.seq (.seq (.reg [op 83 (.faddr 3 (.t 2)), op 84 (.load (.t 83)), op 85 (.lenSl (.t 84)), op 86 (.move (ci 0))])
 (.block 4 (.loop (.seq (.reg [op 87 (.bin .lss (.t 86) (.t 85))])
 (.seq (.cond (.t 87) .skip (.exit 4))
 (.seq (.block 5 (.seq (.reg [mv 88 86, mv 7 88])
 (.seq (.draw [(op 89 (.faddr 3 (.t 2)), 0), (op 90 (.load (.t 89)), 0), (mv 91 7, 0), (op 92 (.iaddr 1 (.t 90) (.t 91)), 0), (op 93 (.load (.t 92)), 0), (op 94 (.faddr 3 (.t 3)), 0), (op 95 (.load (.t 94)), 0), (mv 96 7, 0), (op 97 (.iaddr 1 (.t 95) (.t 96)), 0), (op 98 (.load (.t 97)), 0), (op 99 (.bin .neq (.t 93) (.t 98)), 0)])
 (.cond (.t 99) (.seq (.reg [op 4 (.move (.c (.bool false)))])
 .ret) .skip))))
 (.reg [op 100 (.bin .add (.t 86) (ci 1)), mv 86 100])))))))
 (.seq (.reg [op 4 (.move (.c (.bool true)))])
 .ret)))))⟩
theorem c136_ok : cFunc Go.Proofs.Try.prog Go.Proofs.Try.f136 = some c136 := by kernel_rfl
/-- semigroup/mult.shape -/
def c137 : CFunc := ⟨42, [.tmp 2], (.seq (.reg [op 2 (.move (ci 0))])
 (.seq (.block 0 (.seq (.reg [mv 8 0, op 9 (.lenSl (.t 8)), op 10 (.bin .gtr (.t 9) (ci 400)), mv 7 10])
 (.cond (.t 7) (.seq (.reg [op 2 (.move (ci 3))])
 .ret) (.seq (.reg [mv 12 0, op 13 (.lenSl (.t 12)), op 14 (.bin .eql (.t 13) (ci 0)), mv 11 14])
 (.cond (.t 11) (.seq (.reg [op 2 (.move (ci 4))])
 .ret) .skip)))))
 (.seq (.seq (.reg [mv 15 0, op 16 (.lenSl (.t 15)), op 17 (.move (ci 0))])
 (.block 1 (.loop (.seq (.reg [op 18 (.bin .lss (.t 17) (.t 16))])
 (.seq (.cond (.t 18) .skip (.exit 1))
 (.seq (.block 2 (.seq (.reg [op 19 (.iaddr 1 (.t 15) (.t 17)), op 20 (.load (.t 19)), mv 4 20])
 (.seq (.seq (.reg [mv 21 4, op 22 (.lenSl (.t 21)), mv 23 0, op 24 (.lenSl (.t 23)), op 25 (.bin .neq (.t 22) (.t 24))])
 (.cond (.t 25) (.seq (.reg [op 2 (.move (ci 4))])
 .ret) .skip))
 (.seq (.reg [mv 26 4, op 27 (.lenSl (.t 26)), op 28 (.move (ci 0))])
 (.block 3 (.loop (.seq (.reg [op 29 (.bin .lss (.t 28) (.t 27))])
 (.seq (.cond (.t 29) .skip (.exit 3))
 (.seq (.block 4 (.seq (.reg [op 30 (.iaddr 1 (.t 26) (.t 28)), op 31 (.load (.t 30)), mv 6 31])
 (.seq (.reg [mv 32 6, op 33 (.bin .lss (.t 32) (ci 0)), mv 34 33, gf 35 (.move (.t 6)) 34, gf 36 (.move (.t 0)) 34, gf 37 (.lenSl (.t 36)) 34, gf 38 (.bin .geq (.t 35) (.t 37)) 34, op 39 (.pick (.t 34) (.c (.bool true)) (.t 38))])
 (.cond (.t 39) (.seq (.reg [op 2 (.move (ci 4))])
 .ret) .skip))))
 (.reg [op 40 (.bin .add (.t 28) (ci 1)), mv 28 40]))))))))))
 (.reg [op 41 (.bin .add (.t 17) (ci 1)), mv 17 41])))))))
 (.seq (.reg [op 2 (.move (ci 0))])
 .ret))))⟩
theorem c137_ok : cFunc Go.Proofs.Try.prog Go.Proofs.Try.f137 = some c137 := by kernel_rfl
/-- semigroup/mult.failing -/
def c138 : CFunc := ⟨57, [.tmp 2, .tmp 3, .tmp 4, .tmp 5], (.seq (.reg [op 2 (.move (ci 0)), op 3 (.move (ci 0)), op 4 (.move (ci 0)), op 5 (.move (.c (.bool false)))])
 (.seq (.seq (.reg [mv 9 0, op 10 (.lenSl (.t 9)), op 11 (.move (ci 0))])
 (.block 0 (.loop (.seq (.reg [op 12 (.bin .lss (.t 11) (.t 10))])
 (.seq (.cond (.t 12) .skip (.exit 0))
 (.seq (.block 1 (.seq (.reg [mv 13 11, mv 6 13])
 (.seq (.reg [mv 14 0, op 15 (.lenSl (.t 14)), op 16 (.move (ci 0))])
 (.block 2 (.loop (.seq (.reg [op 17 (.bin .lss (.t 16) (.t 15))])
 (.seq (.cond (.t 17) .skip (.exit 2))
 (.seq (.block 3 (.seq (.reg [mv 18 16, mv 7 18])
 (.seq (.reg [mv 19 0, op 20 (.lenSl (.t 19)), op 21 (.move (ci 0))])
 (.block 4 (.loop (.seq (.reg [op 22 (.bin .lss (.t 21) (.t 20))])
 (.seq (.cond (.t 22) .skip (.exit 4))
 (.seq (.block 5 (.seq (.reg [mv 23 21, mv 8 23])
 (.seq (.draw [(mv 24 0, 0), (mv 25 0, 0), (mv 26 6, 0), (op 27 (.iaddr 1 (.t 25) (.t 26)), 0), (op 28 (.load (.t 27)), 0), (mv 29 7, 0), (op 30 (.iaddr 1 (.t 28) (.t 29)), 0), (op 31 (.load (.t 30)), 0), (op 32 (.iaddr 1 (.t 24) (.t 31)), 0), (op 33 (.load (.t 32)), 0), (mv 34 8, 0), (op 35 (.iaddr 1 (.t 33) (.t 34)), 0), (op 36 (.load (.t 35)), 0), (mv 37 0, 0), (mv 38 6, 0), (op 39 (.iaddr 1 (.t 37) (.t 38)), 0), (op 40 (.load (.t 39)), 0), (mv 41 0, 0), (mv 42 7, 0), (op 43 (.iaddr 1 (.t 41) (.t 42)), 0), (op 44 (.load (.t 43)), 0), (mv 45 8, 0), (op 46 (.iaddr 1 (.t 44) (.t 45)), 0), (op 47 (.load (.t 46)), 0), (op 48 (.iaddr 1 (.t 40) (.t 47)), 0), (op 49 (.load (.t 48)), 0), (op 50 (.bin .neq (.t 36) (.t 49)), 0)])
 (.cond (.t 50) (.seq (.reg [mv 51 6, mv 52 7, mv 53 8, mv 2 51, mv 3 52, mv 4 53, op 5 (.move (.c (.bool true)))])
 .ret) .skip))))
 (.reg [op 54 (.bin .add (.t 21) (ci 1)), mv 21 54])))))))))
 (.reg [op 55 (.bin .add (.t 16) (ci 1)), mv 16 55])))))))))
 (.reg [op 56 (.bin .add (.t 11) (ci 1)), mv 11 56])))))))
 (.seq (.reg [op 2 (.move (ci 0)), op 3 (.move (ci 0)), op 4 (.move (ci 0)), op 5 (.move (.c (.bool false)))])
 .ret)))⟩
theorem c138_ok : cFunc Go.Proofs.Try.prog Go.Proofs.Try.f138 = some c138 := by kernel_rfl
/-- semigroup/dfa.search -/
def c139 : CFunc := ⟨79, [.tmp 2, .tmp 3, .tmp 4, .tmp 5], (.seq (.reg [op 1 (.box 32 (.t 0)), op 2 (.move (.c (.slice none 0 0))), op 3 (.move (.c (.slice none 0 0))), op 4 (.move (.c (.slice none 0 0))), op 5 (.move (.c (.slice none 0 0)))])
 (.seq (.reg [op 10 (.faddr 2 (.t 1)), op 11 (.load (.t 10)), op 12 (.lenSl (.t 11)), op 13 (.mkSlice 3 8 1 [(.int .i64 (.ofNat 0))] (.t 12) (.t 12)), mv 5 13])
 (.seq (.seq (.reg [mv 14 5, op 15 (.lenSl (.t 14)), op 16 (.move (ci 0))])
 (.block 0 (.loop (.seq (.reg [op 17 (.bin .lss (.t 16) (.t 15))])
 (.seq (.cond (.t 17) .skip (.exit 0))
 (.seq (.block 1 (.seq (.reg [mv 18 16, mv 6 18])
 (.reg [mv 19 5, mv 20 6, op 21 (.iaddr 1 (.t 19) (.t 20)), ⟨none, .store 1 (.t 21) (.c (.int .i64 (.negSucc 0))), none⟩])))
 (.reg [op 22 (.bin .add (.t 16) (ci 1)), mv 16 22])))))))
 (.seq (.reg [mv 23 5, op 24 (.faddr 1 (.t 1)), op 25 (.load (.t 24)), op 26 (.iaddr 1 (.t 23) (.t 25)), ⟨none, .store 1 (.t 26) (ci 0), none⟩])
 (.seq (.reg [op 27 (.faddr 1 (.t 1)), op 28 (.load (.t 27)), op 29 (.buildSlice 3 1 1 [(.int .i64 (.ofNat 0))] [(0, (.t 28))]), op 30 (.buildSlice 3 1 1 [(.int .i64 (.ofNat 0))] [(0, (.c (.int .i64 (.negSucc 0))))]), op 31 (.buildSlice 3 1 1 [(.int .i64 (.ofNat 0))] [(0, (.c (.int .i64 (.negSucc 0))))]), mv 2 29, mv 3 30, mv 4 31])
 (.seq (.seq (.reg [op 7 (.move (ci 0))])
 (.block 2 (.loop (.seq (.seq (.reg [mv 32 7, mv 33 2, op 34 (.lenSl (.t 33)), op 35 (.bin .lss (.t 32) (.t 34))])
 (.cond (.t 35) .skip (.exit 2)))
 (.seq (.block 3 (.seq (.draw [(op 38 (.faddr 3 (.t 1)), 0), (op 39 (.load (.t 38)), 0), (mv 40 2, 0), (mv 41 7, 0), (op 42 (.iaddr 1 (.t 40) (.t 41)), 0), (op 43 (.load (.t 42)), 0), (op 44 (.iaddr 1 (.t 39) (.t 43)), 0), (op 45 (.load (.t 44)), 0), (op 46 (.lenSl (.t 45)), 0), (op 47 (.move (ci 0)), 0)])
 (.block 4 (.loop (.seq (.reg [op 48 (.bin .lss (.t 47) (.t 46))])
 (.seq (.cond (.t 48) .skip (.exit 4))
 (.seq (.block 5 (.seq (.reg [mv 49 47, op 50 (.iaddr 1 (.t 45) (.t 47)), op 51 (.load (.t 50)), mv 8 49, mv 9 51])
 (.seq (.reg [mv 52 5, mv 53 9, op 54 (.iaddr 1 (.t 52) (.t 53)), op 55 (.load (.t 54)), op 56 (.bin .lss (.t 55) (ci 0))])
 (.cond (.t 56) (.seq (.reg [mv 57 5, mv 58 9, mv 59 2, op 60 (.lenSl (.t 59)), op 61 (.iaddr 1 (.t 57) (.t 58)), ⟨none, .store 1 (.t 61) (.t 60), none⟩])
 (.reg [mv 62 2, mv 63 9, op 64 (.buildSlice 3 1 1 [(.int .i64 (.ofNat 0))] [(0, (.t 63))]), op 65 (.append 3 1 8 (.t 62) (.t 64)), mv 66 3, mv 67 7, op 68 (.buildSlice 3 1 1 [(.int .i64 (.ofNat 0))] [(0, (.t 67))]), op 69 (.append 3 1 8 (.t 66) (.t 68)), mv 70 4, mv 71 8, op 72 (.buildSlice 3 1 1 [(.int .i64 (.ofNat 0))] [(0, (.t 71))]), op 73 (.append 3 1 8 (.t 70) (.t 72)), mv 2 65, mv 3 69, mv 4 73])) .skip))))
 (.reg [op 74 (.bin .add (.t 47) (ci 1)), mv 47 74]))))))))
 (.reg [mv 36 7, op 37 (.bin .add (.t 36) (ci 1)), mv 7 37]))))))
 (.seq (.reg [mv 75 2, mv 76 3, mv 77 4, mv 78 5, mv 2 75, mv 3 76, mv 4 77, mv 5 78])
 .ret)))))))⟩
theorem c139_ok : cFunc Go.Proofs.Try.prog Go.Proofs.Try.f139 = some c139 := by kernel_rfl
/-- semigroup/partition.Canonical -/
def c140 : CFunc := ⟨42, [.tmp 2], (.seq (.reg [op 2 (.move (.c (.slice none 0 0)))])
 (.seq (.seq (.reg [mv 9 0, op 10 (.lenSl (.t 9)), op 11 (.bin .gtr (.t 10) (ci 4096))])
 (.cond (.t 11) (.seq (.reg [op 2 (.move (.c (.slice none 0 0)))])
 .ret) .skip))
 (.seq (.reg [op 12 (.mkMap), mv 3 12])
 (.seq (.reg [mv 13 0, op 14 (.lenSl (.t 13)), op 15 (.mkSlice 3 8 1 [(.int .i64 (.ofNat 0))] (.t 14) (.t 14)), mv 4 15])
 (.seq (.seq (.reg [mv 16 0, op 17 (.lenSl (.t 16)), op 18 (.move (ci 0))])
 (.block 0 (.loop (.seq (.reg [op 19 (.bin .lss (.t 18) (.t 17))])
 (.seq (.cond (.t 19) .skip (.exit 0))
 (.seq (.block 1 (.seq (.reg [mv 20 18, op 21 (.iaddr 1 (.t 16) (.t 18)), op 22 (.load (.t 21)), mv 5 20, mv 6 22])
 (.seq (.reg [mv 24 3, mv 25 6, op 26 (.lookup (.one .int) (.int .i64 (.ofNat 0)) true (.t 24) (.t 25)), mv 23 26, op 27 (.extract 0 (.t 23)), op 28 (.extract 1 (.t 23)), mv 7 27, mv 8 28])
 (.seq (.seq (.reg [mv 29 8, op 30 (.not (.t 29))])
 (.cond (.t 30) (.seq (.reg [mv 31 3, op 32 (.lenMap (.t 31)), mv 7 32])
 (.reg [mv 33 3, mv 34 6, mv 35 7, ⟨none, .mapSet (.one .int) (.t 33) (.t 34) (.t 35), none⟩])) .skip))
 (.reg [mv 36 4, mv 37 5, mv 38 7, op 39 (.iaddr 1 (.t 36) (.t 37)), ⟨none, .store 1 (.t 39) (.t 38), none⟩])))))
 (.reg [op 40 (.bin .add (.t 18) (ci 1)), mv 18 40])))))))
 (.seq (.reg [mv 41 4, mv 2 41])
 .ret))))))⟩
theorem c140_ok : cFunc Go.Proofs.Try.prog Go.Proofs.Try.f140 = some c140 := by kernel_rfl
/-- semigroup/partition.Valid -/
def c141 : CFunc := ⟨28, [.tmp 2], (.seq (.reg [op 2 (.move (.c (.bool false)))])
 (.seq (.seq (.reg [mv 6 0, op 7 (.lenSl (.t 6)), op 8 (.bin .gtr (.t 7) (ci 4096))])
 (.cond (.t 8) (.seq (.reg [op 2 (.move (.c (.bool false)))])
 .ret) .skip))
 (.seq (.reg [op 3 (.move (ci 0))])
 (.seq (.seq (.reg [mv 9 0, op 10 (.lenSl (.t 9)), op 11 (.move (ci 0))])
 (.block 0 (.loop (.seq (.reg [op 12 (.bin .lss (.t 11) (.t 10))])
 (.seq (.cond (.t 12) .skip (.exit 0))
 (.seq (.block 1 (.seq (.reg [op 13 (.iaddr 1 (.t 9) (.t 11)), op 14 (.load (.t 13)), mv 5 14])
 (.seq (.seq (.reg [mv 15 5, op 16 (.bin .lss (.t 15) (ci 0)), mv 17 16, gf 18 (.move (.t 5)) 17, gf 19 (.move (.t 3)) 17, gf 20 (.bin .gtr (.t 18) (.t 19)) 17, op 21 (.pick (.t 17) (.c (.bool true)) (.t 20))])
 (.cond (.t 21) (.seq (.reg [op 2 (.move (.c (.bool false)))])
 .ret) .skip))
 (.seq (.reg [mv 22 5, mv 23 3, op 24 (.bin .eql (.t 22) (.t 23))])
 (.cond (.t 24) (.reg [mv 25 3, op 26 (.bin .add (.t 25) (ci 1)), mv 3 26]) .skip)))))
 (.reg [op 27 (.bin .add (.t 11) (ci 1)), mv 11 27])))))))
 (.seq (.reg [op 2 (.move (.c (.bool true)))])
 .ret)))))⟩
theorem c141_ok : cFunc Go.Proofs.Try.prog Go.Proofs.Try.f141 = some c141 := by kernel_rfl
/-- semigroup/semigroupref11.MayGens -/
def c142 : CFunc := ⟨32, [.tmp 2], (.seq (.reg [op 2 (.move (.c (.bool false)))])
 (.seq (.seq (.reg [mv 5 0, op 6 (.lenSl (.t 5)), op 7 (.bin .lss (.t 6) (ci 1)), mv 8 7, gf 9 (.move (.t 0)) 8, gf 10 (.lenSl (.t 9)) 8, gf 11 (.bin .gtr (.t 10) (ci 6)) 8, op 12 (.pick (.t 8) (.c (.bool true)) (.t 11))])
 (.cond (.t 12) (.seq (.reg [op 2 (.move (.c (.bool false)))])
 .ret) .skip))
 (.seq (.seq (.reg [mv 13 0, op 14 (.lenSl (.t 13)), op 15 (.move (ci 0))])
 (.block 0 (.loop (.seq (.reg [op 16 (.bin .lss (.t 15) (.t 14))])
 (.seq (.cond (.t 16) .skip (.exit 0))
 (.seq (.block 1 (.seq (.reg [op 17 (.iaddr 1 (.t 13) (.t 15)), op 18 (.load (.t 17)), mv 4 18])
 (.seq (.reg [mv 19 4, op 20 (.call 148 [(.t 19)]), op 21 (.not (.t 20)), mv 22 21, gf 23 (.move (.t 4)) 22, gf 24 (.lenSl (.t 23)) 22, gf 25 (.move (.t 0)) 22, gf 26 (.iaddr 1 (.t 25) (ci 0)) 22, gf 27 (.load (.t 26)) 22, gf 28 (.lenSl (.t 27)) 22, gf 29 (.bin .neq (.t 24) (.t 28)) 22, op 30 (.pick (.t 22) (.c (.bool true)) (.t 29))])
 (.cond (.t 30) (.seq (.reg [op 2 (.move (.c (.bool false)))])
 .ret) .skip))))
 (.reg [op 31 (.bin .add (.t 15) (ci 1)), mv 15 31])))))))
 (.seq (.reg [op 2 (.move (.c (.bool true)))])
 .ret))))⟩
theorem c142_ok : cFunc Go.Proofs.Try.prog Go.Proofs.Try.f142 = some c142 := by kernel_rfl
/-- semigroup/semigroupref03.Copy -/
def c143 : CFunc := ⟨20, [.tmp 2], (.seq (.reg [op 2 (.move (.c (.slice none 0 0)))])
 (.seq (.reg [op 3 (.move (.c (.slice none 0 0)))])
 (.seq (.seq (.reg [mv 6 0, op 7 (.lenSl (.t 6)), op 8 (.move (ci 0))])
 (.block 0 (.loop (.seq (.reg [op 9 (.bin .lss (.t 8) (.t 7))])
 (.seq (.cond (.t 9) .skip (.exit 0))
 (.seq (.block 1 (.seq (.reg [op 10 (.iaddr 1 (.t 6) (.t 8)), op 11 (.load (.t 10)), mv 5 11])
 (.reg [mv 12 3, op 13 (.buildSlice 3 1 0 [] []), mv 14 5, op 15 (.append 3 1 8 (.t 13) (.t 14)), op 16 (.buildSlice 22 1 1 [(.slice none 0 0)] [(0, (.t 15))]), op 17 (.append 22 1 24 (.t 12) (.t 16)), mv 3 17])))
 (.reg [op 18 (.bin .add (.t 8) (ci 1)), mv 8 18])))))))
 (.seq (.reg [mv 19 3, mv 2 19])
 .ret))))⟩
theorem c143_ok : cFunc Go.Proofs.Try.prog Go.Proofs.Try.f143 = some c143 := by kernel_rfl
/-- semigroup/semigroupref03.Discrete -/
def c144 : CFunc := ⟨18, [.tmp 2], (.seq (.reg [op 2 (.move (.c (.slice none 0 0)))])
 (.seq (.reg [mv 5 0, op 6 (.mkSlice 3 8 1 [(.int .i64 (.ofNat 0))] (.t 5) (.t 5)), mv 3 6])
 (.seq (.seq (.reg [mv 7 3, op 8 (.lenSl (.t 7)), op 9 (.move (ci 0))])
 (.block 0 (.loop (.seq (.reg [op 10 (.bin .lss (.t 9) (.t 8))])
 (.seq (.cond (.t 10) .skip (.exit 0))
 (.seq (.block 1 (.seq (.reg [mv 11 9, mv 4 11])
 (.reg [mv 12 3, mv 13 4, mv 14 4, op 15 (.iaddr 1 (.t 12) (.t 13)), ⟨none, .store 1 (.t 15) (.t 14), none⟩])))
 (.reg [op 16 (.bin .add (.t 9) (ci 1)), mv 9 16])))))))
 (.seq (.reg [mv 17 3, mv 2 17])
 .ret))))⟩
theorem c144_ok : cFunc Go.Proofs.Try.prog Go.Proofs.Try.f144 = some c144 := by kernel_rfl
/-- semigroup/semigroupref11.Compose -/
def c145 : CFunc := ⟨27, [.tmp 4], (.seq (.reg [op 4 (.move (.c (.slice none 0 0)))])
 (.seq (.reg [mv 8 0, op 9 (.lenSl (.t 8)), op 10 (.mkSlice 3 8 1 [(.int .i64 (.ofNat 0))] (.t 9) (.t 9)), mv 5 10])
 (.seq (.seq (.reg [mv 11 0, op 12 (.lenSl (.t 11)), op 13 (.move (ci 0))])
 (.block 0 (.loop (.seq (.reg [op 14 (.bin .lss (.t 13) (.t 12))])
 (.seq (.cond (.t 14) .skip (.exit 0))
 (.seq (.block 1 (.seq (.reg [mv 15 13, op 16 (.iaddr 1 (.t 11) (.t 13)), op 17 (.load (.t 16)), mv 6 15, mv 7 17])
 (.reg [mv 18 5, mv 19 6, mv 20 1, mv 21 7, op 22 (.iaddr 1 (.t 20) (.t 21)), op 23 (.load (.t 22)), op 24 (.iaddr 1 (.t 18) (.t 19)), ⟨none, .store 1 (.t 24) (.t 23), none⟩])))
 (.reg [op 25 (.bin .add (.t 13) (ci 1)), mv 13 25])))))))
 (.seq (.reg [mv 26 5, mv 4 26])
 .ret))))⟩
theorem c145_ok : cFunc Go.Proofs.Try.prog Go.Proofs.Try.f145 = some c145 := by kernel_rfl
/-- semigroup/trans.OfDFA -/
def c146 : CFunc := ⟨55, [.tmp 2, .tmp 3], (.seq (.reg [op 1 (.box 32 (.t 0)), op 2 (.move (.c (.slice none 0 0))), op 3 (.move (ci 0))])
 (.seq (.seq (.reg [op 8 (.loadN 4 (.t 1)), op 9 (.call 75 [(.t 8)]), mv 4 9])
 (.seq (.reg [mv 10 4, op 11 (.bin .neq (.t 10) (ci 0))])
 (.cond (.t 11) (.seq (.reg [mv 12 4, op 2 (.move (.c (.slice none 0 0))), mv 3 12])
 .ret) .skip)))
 (.seq (.seq (.reg [op 13 (.faddr 2 (.t 1)), op 14 (.load (.t 13)), op 15 (.lenSl (.t 14)), op 16 (.bin .gtr (.t 15) (ci 32))])
 (.cond (.t 16) (.seq (.reg [op 2 (.move (.c (.slice none 0 0))), op 3 (.move (ci 3))])
 .ret) .skip))
 (.seq (.reg [op 17 (.faddr 0 (.t 1)), op 18 (.load (.t 17)), op 19 (.mkSlice 22 24 1 [(.slice none 0 0)] (.t 18) (.t 18)), mv 5 19])
 (.seq (.seq (.reg [mv 20 5, op 21 (.lenSl (.t 20)), op 22 (.move (ci 0))])
 (.block 0 (.loop (.seq (.reg [op 23 (.bin .lss (.t 22) (.t 21))])
 (.seq (.cond (.t 23) .skip (.exit 0))
 (.seq (.block 1 (.seq (.reg [mv 24 22, mv 6 24])
 (.seq (.reg [mv 25 5, mv 26 6, op 27 (.faddr 2 (.t 1)), op 28 (.load (.t 27)), op 29 (.lenSl (.t 28)), op 30 (.mkSlice 3 8 1 [(.int .i64 (.ofNat 0))] (.t 29) (.t 29)), op 31 (.iaddr 1 (.t 25) (.t 26)), ⟨none, .store 1 (.t 31) (.t 30), none⟩])
 (.seq (.reg [op 32 (.faddr 2 (.t 1)), op 33 (.load (.t 32)), op 34 (.lenSl (.t 33)), op 35 (.move (ci 0))])
 (.block 2 (.loop (.seq (.reg [op 36 (.bin .lss (.t 35) (.t 34))])
 (.seq (.cond (.t 36) .skip (.exit 2))
 (.seq (.block 3 (.seq (.reg [mv 37 35, mv 7 37])
 (.draw [(mv 38 5, 0), (mv 39 6, 0), (op 40 (.iaddr 1 (.t 38) (.t 39)), 0), (op 41 (.load (.t 40)), 0), (mv 42 7, 0), (op 43 (.faddr 3 (.t 1)), 0), (op 44 (.load (.t 43)), 0), (mv 45 7, 0), (op 46 (.iaddr 1 (.t 44) (.t 45)), 0), (op 47 (.load (.t 46)), 0), (mv 48 6, 0), (op 49 (.iaddr 1 (.t 47) (.t 48)), 0), (op 50 (.load (.t 49)), 0), (op 51 (.iaddr 1 (.t 41) (.t 42)), 0), (⟨none, .store 1 (.t 51) (.t 50), none⟩, 1)])))
 (.reg [op 52 (.bin .add (.t 35) (ci 1)), mv 35 52]))))))))))
 (.reg [op 53 (.bin .add (.t 22) (ci 1)), mv 22 53])))))))
 (.seq (.reg [mv 54 5, mv 2 54, op 3 (.move (ci 0))])
 .ret))))))⟩
theorem c146_ok : cFunc Go.Proofs.Try.prog Go.Proofs.Try.f146 = some c146 := by kernel_rfl
/-- semigroup/syntactic.monoid -/
def c147 : CFunc := ⟨105, [.cells 6 2, .cells 9 3, .tmp 4], (.seq (.reg [op 2 (.alloc 101 [(.int .i64 (.ofNat 0)), (.slice none 0 0), (.slice none 0 0), (.slice none 0 0), (.slice none 0 0), (.slice none 0 0)]), op 3 (.alloc 163 [(.int .i64 (.ofNat 0)), (.bool false), (.slice none 0 0), (.slice none 0 0), (.slice none 0 0), (.slice none 0 0), (.slice none 0 0), (.slice none 0 0), (.int .i64 (.ofNat 0))]), op 4 (.move (ci 0))])
 (.seq (.reg [mv 13 0, op 14 (.call 149 [(.t 13), (.c (.bool true))]), mv 12 14, op 15 (.extract 0 (.t 12)), op 16 (.extract 1 (.t 12)), op 5 (.alloc 163 [(.int .i64 (.ofNat 0)), (.bool false), (.slice none 0 0), (.slice none 0 0), (.slice none 0 0), (.slice none 0 0), (.slice none 0 0), (.slice none 0 0), (.int .i64 (.ofNat 0))]), ⟨none, .store 9 (.t 5) (.t 15), none⟩, mv 6 16])
 (.seq (.seq (.reg [mv 17 6, op 18 (.bin .neq (.t 17) (ci 0))])
 (.cond (.t 18) (.seq (.reg [op 19 (.build [(.int .i64 (.ofNat 0)), (.slice none 0 0), (.slice none 0 0), (.slice none 0 0), (.slice none 0 0), (.slice none 0 0)] []), op 20 (.build [(.int .i64 (.ofNat 0)), (.bool false), (.slice none 0 0), (.slice none 0 0), (.slice none 0 0), (.slice none 0 0), (.slice none 0 0), (.slice none 0 0), (.int .i64 (.ofNat 0))] []), mv 21 6, ⟨none, .store 6 (.t 2) (.t 19), none⟩, ⟨none, .store 9 (.t 3) (.t 20), none⟩, mv 4 21])
 .ret) .skip))
 (.seq (.reg [op 23 (.loadN 9 (.t 5)), op 24 (.call 150 [(.t 23)]), mv 22 24, op 25 (.extract 0 (.t 22)), op 26 (.extract 1 (.t 22)), mv 7 25, mv 6 26])
 (.seq (.seq (.reg [mv 27 6, op 28 (.bin .neq (.t 27) (ci 0))])
 (.cond (.t 28) (.seq (.reg [op 29 (.build [(.int .i64 (.ofNat 0)), (.slice none 0 0), (.slice none 0 0), (.slice none 0 0), (.slice none 0 0), (.slice none 0 0)] []), op 30 (.build [(.int .i64 (.ofNat 0)), (.bool false), (.slice none 0 0), (.slice none 0 0), (.slice none 0 0), (.slice none 0 0), (.slice none 0 0), (.slice none 0 0), (.int .i64 (.ofNat 0))] []), mv 31 6, ⟨none, .store 6 (.t 2) (.t 29), none⟩, ⟨none, .store 9 (.t 3) (.t 30), none⟩, mv 4 31])
 .ret) .skip))
 (.seq (.reg [mv 32 0, op 33 (.lenSl (.t 32)), mv 34 7, op 35 (.buildSlice 3 1 0 [] []), op 36 (.faddr 6 (.t 5)), op 37 (.load (.t 36)), op 38 (.iaddr 1 (.t 37) (ci 0)), op 39 (.load (.t 38)), op 40 (.append 3 1 8 (.t 35) (.t 39)), op 41 (.build [(.int .i64 (.ofNat 0)), (.slice none 0 0), (.slice none 0 0), (.slice none 0 0), (.slice none 0 0), (.slice none 0 0)] [(0, 1, (.t 33)), (1, 1, (.t 34)), (3, 1, (.t 40))]), op 8 (.alloc 101 [(.int .i64 (.ofNat 0)), (.slice none 0 0), (.slice none 0 0), (.slice none 0 0), (.slice none 0 0), (.slice none 0 0)]), ⟨none, .store 6 (.t 8) (.t 41), none⟩])
 (.seq (.reg [mv 42 7, op 43 (.lenSl (.t 42)), op 44 (.mkSlice 9 16 1 [(.string ⟨⟨[]⟩⟩)] (.t 43) (.t 43)), op 45 (.faddr 2 (.t 8)), ⟨none, .store 1 (.t 45) (.t 44), none⟩])
 (.seq (.reg [mv 46 7, op 47 (.lenSl (.t 46)), op 48 (.mkSlice 4 1 1 [(.bool false)] (.t 47) (.t 47)), op 49 (.faddr 5 (.t 8)), ⟨none, .store 1 (.t 49) (.t 48), none⟩])
 (.seq (.seq (.reg [mv 50 7, op 51 (.lenSl (.t 50)), op 52 (.move (ci 0))])
 (.block 0 (.loop (.seq (.reg [op 53 (.bin .lss (.t 52) (.t 51))])
 (.seq (.cond (.t 53) .skip (.exit 0))
 (.seq (.block 1 (.seq (.reg [mv 54 52, mv 9 54])
 (.seq (.seq (.reg [op 55 (.faddr 5 (.t 5)), op 56 (.load (.t 55)), mv 57 9, op 58 (.iaddr 1 (.t 56) (.t 57)), op 59 (.load (.t 58)), op 60 (.bin .geq (.t 59) (ci 0))])
 (.cond (.t 60) (.draw [(op 61 (.faddr 2 (.t 8)), 0), (op 62 (.load (.t 61)), 0), (mv 63 9, 0), (op 64 (.faddr 2 (.t 8)), 0), (op 65 (.load (.t 64)), 0), (op 66 (.faddr 4 (.t 5)), 0), (op 67 (.load (.t 66)), 0), (mv 68 9, 0), (op 69 (.iaddr 1 (.t 67) (.t 68)), 0), (op 70 (.load (.t 69)), 0), (op 71 (.iaddr 1 (.t 65) (.t 70)), 0), (op 72 (.load (.t 71)), 0), (op 73 (.faddr 5 (.t 5)), 0), (op 74 (.load (.t 73)), 0), (mv 75 9, 0), (op 76 (.iaddr 1 (.t 74) (.t 75)), 0), (op 77 (.load (.t 76)), 0), (op 78 (.faddr 5 (.t 5)), 0), (op 79 (.load (.t 78)), 0), (mv 80 9, 0), (op 81 (.iaddr 1 (.t 79) (.t 80)), 0), (op 82 (.load (.t 81)), 0), (op 83 (.bin .add (.t 82) (ci 1)), 0), (op 84 (.sub (.c (.string ⟨⟨[97, 98, 99, 100, 101, 102]⟩⟩)) (some (.t 77)) (some (.t 83))), 0), (op 85 (.bin .add (.t 72) (.t 84)), 0), (op 86 (.iaddr 1 (.t 62) (.t 63)), 0), (⟨none, .store 1 (.t 86) (.t 85), none⟩, 1)]) .skip))
 (.seq (.reg [op 87 (.faddr 6 (.t 5)), op 88 (.load (.t 87)), mv 89 9, op 90 (.iaddr 1 (.t 88) (.t 89)), op 91 (.load (.t 90)), op 92 (.lenSl (.t 91)), op 93 (.move (ci 0))])
 (.block 2 (.loop (.seq (.reg [op 94 (.bin .lss (.t 93) (.t 92))])
 (.seq (.cond (.t 94) .skip (.exit 2))
 (.seq (.block 3 (.seq (.reg [op 95 (.iaddr 1 (.t 91) (.t 93)), op 96 (.load (.t 95)), mv 11 96])
 (.reg [op 97 (.faddr 5 (.t 8)), op 98 (.load (.t 97)), mv 99 11, op 100 (.iaddr 1 (.t 98) (.t 99)), ⟨none, .store 1 (.t 100) (.c (.bool true)), none⟩])))
 (.reg [op 101 (.bin .add (.t 93) (ci 1)), mv 93 101]))))))))))
 (.reg [op 102 (.bin .add (.t 52) (ci 1)), mv 52 102])))))))
 (.seq (.draw [(op 103 (.loadN 6 (.t 8)), 0), (op 104 (.loadN 9 (.t 5)), 1), (⟨none, .store 6 (.t 2) (.t 103), none⟩, 1), (⟨none, .store 9 (.t 3) (.t 104), none⟩, 2), (op 4 (.move (ci 0)), 2)])
 .ret))))))))))⟩
theorem c147_ok : cFunc Go.Proofs.Try.prog Go.Proofs.Try.f147 = some c147 := by kernel_rfl
/-- semigroup/semigroupref11.Valid -/
def c148 : CFunc := ⟨28, [.tmp 2], (.seq (.reg [op 2 (.move (.c (.bool false)))])
 (.seq (.seq (.reg [mv 5 0, op 6 (.lenSl (.t 5)), op 7 (.bin .lss (.t 6) (ci 1)), mv 8 7, gf 9 (.move (.t 0)) 8, gf 10 (.lenSl (.t 9)) 8, gf 11 (.bin .gtr (.t 10) (ci 32)) 8, op 12 (.pick (.t 8) (.c (.bool true)) (.t 11))])
 (.cond (.t 12) (.seq (.reg [op 2 (.move (.c (.bool false)))])
 .ret) .skip))
 (.seq (.seq (.reg [mv 13 0, op 14 (.lenSl (.t 13)), op 15 (.move (ci 0))])
 (.block 0 (.loop (.seq (.reg [op 16 (.bin .lss (.t 15) (.t 14))])
 (.seq (.cond (.t 16) .skip (.exit 0))
 (.seq (.block 1 (.seq (.reg [op 17 (.iaddr 1 (.t 13) (.t 15)), op 18 (.load (.t 17)), mv 4 18])
 (.seq (.reg [mv 19 4, op 20 (.bin .lss (.t 19) (ci 0)), mv 21 20, gf 22 (.move (.t 4)) 21, gf 23 (.move (.t 0)) 21, gf 24 (.lenSl (.t 23)) 21, gf 25 (.bin .geq (.t 22) (.t 24)) 21, op 26 (.pick (.t 21) (.c (.bool true)) (.t 25))])
 (.cond (.t 26) (.seq (.reg [op 2 (.move (.c (.bool false)))])
 .ret) .skip))))
 (.reg [op 27 (.bin .add (.t 15) (ci 1)), mv 15 27])))))))
 (.seq (.reg [op 2 (.move (.c (.bool true)))])
 .ret))))⟩
theorem c148_ok : cFunc Go.Proofs.Try.prog Go.Proofs.Try.f148 = some c148 := by kernel_rfl
/-- semigroup/enumerate.Build -/
def c149 : CFunc := ⟨26, [.cells 9 4, .tmp 5], (.seq (.reg [op 4 (.alloc 163 [(.int .i64 (.ofNat 0)), (.bool false), (.slice none 0 0), (.slice none 0 0), (.slice none 0 0), (.slice none 0 0), (.slice none 0 0), (.slice none 0 0), (.int .i64 (.ofNat 0))]), op 5 (.move (ci 0))])
 (.seq (.reg [mv 9 0, mv 10 1, op 11 (.call 151 [(.t 9), (.t 10)]), mv 8 11, op 12 (.extract 0 (.t 8)), op 13 (.extract 1 (.t 8)), mv 6 12, mv 7 13])
 (.seq (.seq (.reg [mv 14 7, op 15 (.bin .eql (.t 14) (ci 0))])
 (.cond (.t 15) (.reg [mv 16 6, op 17 (.call 152 [(.t 16), (ci 2000)]), mv 7 17]) .skip))
 (.seq (.seq (.reg [mv 18 7, op 19 (.bin .neq (.t 18) (ci 0))])
 (.cond (.t 19) (.seq (.reg [op 20 (.build [(.int .i64 (.ofNat 0)), (.bool false), (.slice none 0 0), (.slice none 0 0), (.slice none 0 0), (.slice none 0 0), (.slice none 0 0), (.slice none 0 0), (.int .i64 (.ofNat 0))] []), mv 21 7, ⟨none, .store 9 (.t 4) (.t 20), none⟩, mv 5 21])
 .ret) .skip))
 (.seq (.reg [mv 22 6, op 23 (.nilCheck (.t 22)), op 24 (.faddr 0 (.t 23)), op 25 (.loadN 9 (.t 24)), ⟨none, .store 9 (.t 4) (.t 25), none⟩, op 5 (.move (ci 0))])
 .ret)))))⟩
theorem c149_ok : cFunc Go.Proofs.Try.prog Go.Proofs.Try.f149 = some c149 := by kernel_rfl
/-- semigroup/enumerate.Table -/
def c150 : CFunc := ⟨93, [.tmp 2, .tmp 3], (.seq (.reg [op 1 (.box 163 (.t 0)), op 2 (.move (.c (.slice none 0 0))), op 3 (.move (ci 0))])
 (.seq (.reg [op 10 (.loadN 9 (.t 1)), op 11 (.call 153 [(.t 10)]), mv 4 11])
 (.seq (.block 0 (.seq (.reg [mv 13 4, op 14 (.eqNil .ptr false (.t 13)), mv 12 14])
 (.cond (.t 12) (.seq (.reg [op 2 (.move (.c (.slice none 0 0))), op 3 (.move (ci 8))])
 .ret) (.seq (.draw [(mv 16 4, 0), (op 17 (.nilCheck (.t 16)), 0), (op 18 (.faddr 0 (.t 17)), 0), (op 19 (.faddr 8 (.t 18)), 0), (op 20 (.load (.t 19)), 0), (mv 21 4, 0), (op 22 (.nilCheck (.t 21)), 0), (op 23 (.faddr 0 (.t 22)), 0), (op 24 (.faddr 3 (.t 23)), 0), (op 25 (.load (.t 24)), 0), (op 26 (.lenSl (.t 25)), 0), (op 27 (.bin .lss (.t 20) (.t 26)), 0), (mv 15 27, 0)])
 (.cond (.t 15) (.seq (.reg [op 2 (.move (.c (.slice none 0 0))), op 3 (.move (ci 7))])
 .ret) (.seq (.reg [mv 29 4, op 30 (.nilCheck (.t 29)), op 31 (.faddr 0 (.t 30)), op 32 (.faddr 3 (.t 31)), op 33 (.load (.t 32)), op 34 (.lenSl (.t 33)), op 35 (.bin .gtr (.t 34) (ci 400)), mv 28 35])
 (.cond (.t 28) (.seq (.reg [op 2 (.move (.c (.slice none 0 0))), op 3 (.move (ci 3))])
 .ret) .skip)))))))
 (.seq (.reg [mv 36 4, op 37 (.nilCheck (.t 36)), op 38 (.faddr 0 (.t 37)), op 39 (.faddr 3 (.t 38)), op 40 (.load (.t 39)), op 41 (.lenSl (.t 40)), op 42 (.mkSlice 22 24 1 [(.slice none 0 0)] (.t 41) (.t 41)), mv 5 42])
 (.seq (.seq (.reg [mv 43 4, op 44 (.nilCheck (.t 43)), op 45 (.faddr 0 (.t 44)), op 46 (.faddr 3 (.t 45)), op 47 (.load (.t 46)), op 48 (.lenSl (.t 47)), op 49 (.move (ci 0))])
 (.block 1 (.loop (.seq (.reg [op 50 (.bin .lss (.t 49) (.t 48))])
 (.seq (.cond (.t 50) .skip (.exit 1))
 (.seq (.block 2 (.seq (.reg [mv 51 49, op 52 (.iaddr 1 (.t 47) (.t 49)), op 53 (.load (.t 52)), mv 6 51, mv 7 53])
 (.seq (.reg [mv 54 5, mv 55 6, mv 56 4, op 57 (.nilCheck (.t 56)), op 58 (.faddr 0 (.t 57)), op 59 (.faddr 3 (.t 58)), op 60 (.load (.t 59)), op 61 (.lenSl (.t 60)), op 62 (.mkSlice 3 8 1 [(.int .i64 (.ofNat 0))] (.t 61) (.t 61)), op 63 (.iaddr 1 (.t 54) (.t 55)), ⟨none, .store 1 (.t 63) (.t 62), none⟩])
 (.seq (.reg [mv 64 4, op 65 (.nilCheck (.t 64)), op 66 (.faddr 0 (.t 65)), op 67 (.faddr 3 (.t 66)), op 68 (.load (.t 67)), op 69 (.lenSl (.t 68)), op 70 (.move (ci 0))])
 (.block 3 (.loop (.seq (.reg [op 71 (.bin .lss (.t 70) (.t 69))])
 (.seq (.cond (.t 71) .skip (.exit 3))
 (.seq (.block 4 (.seq (.reg [mv 72 70, op 73 (.iaddr 1 (.t 68) (.t 70)), op 74 (.load (.t 73)), mv 8 72, mv 9 74])
 (.draw [(mv 75 5, 2), (mv 76 6, 2), (op 77 (.iaddr 1 (.t 75) (.t 76)), 2), (op 78 (.load (.t 77)), 2), (mv 79 8, 2), (mv 80 4, 2), (op 81 (.nilCheck (.t 80)), 2), (op 82 (.faddr 9 (.t 81)), 2), (op 83 (.load (.t 82)), 2), (mv 84 7, 0), (mv 85 9, 0), (op 86 (.call 155 [(.t 84), (.t 85)]), 1), (op 87 (.call 154 [(.t 86)]), 2), (op 88 (.lookup (.one .str) (.int .i64 (.ofNat 0)) false (.t 83) (.t 87)), 2), (op 89 (.iaddr 1 (.t 78) (.t 79)), 2), (⟨none, .store 1 (.t 89) (.t 88), none⟩, 3)])))
 (.reg [op 90 (.bin .add (.t 70) (ci 1)), mv 70 90]))))))))))
 (.reg [op 91 (.bin .add (.t 49) (ci 1)), mv 49 91])))))))
 (.seq (.reg [mv 92 5, mv 2 92, op 3 (.move (ci 0))])
 .ret))))))⟩
theorem c150_ok : cFunc Go.Proofs.Try.prog Go.Proofs.Try.f150 = some c150 := by kernel_rfl
/-- semigroup/enumerate.begin -/
def c151 : CFunc := ⟨104, [.tmp 4, .tmp 5], (.seq (.reg [op 4 (.move (.c (.pointer none))), op 5 (.move (ci 0))])
 (.seq (.seq (.reg [mv 14 0, op 15 (.lenSl (.t 14)), op 16 (.bin .eql (.t 15) (ci 0)), mv 17 16, gf 18 (.move (.t 0)) 17, gf 19 (.lenSl (.t 18)) 17, gf 20 (.bin .gtr (.t 19) (ci 6)) 17, op 21 (.pick (.t 17) (.c (.bool true)) (.t 20))])
 (.cond (.t 21) (.seq (.reg [op 4 (.move (.c (.pointer none))), op 5 (.move (ci 1))])
 .ret) .skip))
 (.seq (.seq (.reg [mv 22 0, op 23 (.lenSl (.t 22)), op 24 (.move (ci 0))])
 (.block 0 (.loop (.seq (.reg [op 25 (.bin .lss (.t 24) (.t 23))])
 (.seq (.cond (.t 25) .skip (.exit 0))
 (.seq (.block 1 (.seq (.reg [op 26 (.iaddr 1 (.t 22) (.t 24)), op 27 (.load (.t 26)), mv 7 27])
 (.seq (.reg [mv 28 7, op 29 (.call 156 [(.t 28)]), op 30 (.not (.t 29)), mv 31 30, gf 32 (.move (.t 7)) 31, gf 33 (.lenSl (.t 32)) 31, gf 34 (.move (.t 0)) 31, gf 35 (.iaddr 1 (.t 34) (ci 0)) 31, gf 36 (.load (.t 35)) 31, gf 37 (.lenSl (.t 36)) 31, gf 38 (.bin .neq (.t 33) (.t 37)) 31, op 39 (.pick (.t 31) (.c (.bool true)) (.t 38))])
 (.cond (.t 39) (.seq (.reg [op 4 (.move (.c (.pointer none))), op 5 (.move (ci 4))])
 .ret) .skip))))
 (.reg [op 40 (.bin .add (.t 24) (ci 1)), mv 24 40])))))))
 (.seq (.reg [mv 41 0, op 42 (.iaddr 1 (.t 41) (ci 0)), op 43 (.load (.t 42)), op 44 (.lenSl (.t 43)), mv 45 1, op 46 (.build [(.int .i64 (.ofNat 0)), (.bool false), (.slice none 0 0), (.slice none 0 0), (.slice none 0 0), (.slice none 0 0), (.slice none 0 0), (.slice none 0 0), (.int .i64 (.ofNat 0))] [(0, 1, (.t 44)), (1, 1, (.t 45))]), op 47 (.mkMap), op 48 (.build [(.int .i64 (.ofNat 0)), (.bool false), (.slice none 0 0), (.slice none 0 0), (.slice none 0 0), (.slice none 0 0), (.slice none 0 0), (.slice none 0 0), (.int .i64 (.ofNat 0)), (.map none), (.slice none 0 0)] [(0, 9, (.t 46)), (9, 1, (.t 47))]), op 49 (.box 208 (.t 48)), mv 8 49])
 (.seq (.reg [op 9 (.move (.c (.int .i64 (.negSucc 0))))])
 (.seq (.seq (.reg [mv 50 1])
 (.cond (.t 50) (.seq (.reg [mv 51 8, mv 52 0, op 53 (.iaddr 1 (.t 52) (ci 0)), op 54 (.load (.t 53)), op 55 (.lenSl (.t 54)), op 56 (.call 158 [(.t 55)]), op 57 (.call 157 [(.t 51), (.t 56), (.c (.int .i64 (.negSucc 0))), (.c (.int .i64 (.negSucc 0))), (.c (.string ⟨⟨[]⟩⟩))])])
 (.reg [op 9 (.move (ci 0))])) .skip))
 (.seq (.seq (.reg [mv 58 0, op 59 (.lenSl (.t 58)), op 60 (.move (ci 0))])
 (.block 2 (.loop (.seq (.reg [op 61 (.bin .lss (.t 60) (.t 59))])
 (.seq (.cond (.t 61) .skip (.exit 2))
 (.seq (.block 3 (.seq (.reg [mv 62 60, op 63 (.iaddr 1 (.t 58) (.t 60)), op 64 (.load (.t 63)), mv 10 62, mv 11 64])
 (.seq (.draw [(mv 65 8, 2), (mv 66 8, 1), (op 67 (.nilCheck (.t 66)), 1), (op 68 (.faddr 0 (.t 67)), 1), (op 69 (.faddr 2 (.t 68)), 1), (op 70 (.load (.t 69)), 1), (op 71 (.buildSlice 3 1 0 [] []), 0), (mv 72 11, 0), (op 73 (.append 3 1 8 (.t 71) (.t 72)), 1), (op 74 (.buildSlice 22 1 1 [(.slice none 0 0)] [(0, (.t 73))]), 1), (op 75 (.append 22 1 24 (.t 70) (.t 74)), 2), (op 76 (.nilCheck (.t 65)), 2), (op 77 (.faddr 0 (.t 76)), 2), (op 78 (.faddr 2 (.t 77)), 2), (⟨none, .store 1 (.t 78) (.t 75), none⟩, 3)])
 (.seq (.draw [(mv 80 8, 1), (op 81 (.nilCheck (.t 80)), 1), (op 82 (.faddr 9 (.t 81)), 1), (op 83 (.load (.t 82)), 1), (mv 84 11, 0), (op 85 (.call 154 [(.t 84)]), 1), (op 86 (.lookup (.one .str) (.int .i64 (.ofNat 0)) true (.t 83) (.t 85)), 1), (mv 79 86, 1), (op 87 (.extract 0 (.t 79)), 1), (op 88 (.extract 1 (.t 79)), 1), (mv 12 87, 1), (mv 13 88, 1)])
 (.seq (.reg [mv 89 13])
 (.cond (.t 89) (.reg [mv 90 8, mv 91 10, op 92 (.call 160 [(.t 91)]), mv 93 12, op 94 (.call 159 [(.t 90), (.t 92), (.t 93)])]) (.reg [mv 95 8, mv 96 11, mv 97 9, mv 98 10, mv 99 10, op 100 (.call 160 [(.t 99)]), op 101 (.call 157 [(.t 95), (.t 96), (.t 97), (.t 98), (.t 100)])])))))))
 (.reg [op 102 (.bin .add (.t 60) (ci 1)), mv 60 102])))))))
 (.seq (.reg [mv 103 8, mv 4 103, op 5 (.move (ci 0))])
 .ret))))))))⟩
theorem c151_ok : cFunc Go.Proofs.Try.prog Go.Proofs.Try.f151 = some c151 := by kernel_rfl
/-- (*semigroup/enumerate.work).process -/
def c152 : CFunc := ⟨143, [.tmp 4], (.seq (.reg [op 4 (.move (ci 0))])
 (.seq (.block 0 (.loop (.seq (.seq (.draw [(mv 13 1, 0), (op 14 (.bin .gtr (.t 13) (ci 0)), 0), (mv 15 14, 0), (gt 16 (.move (.t 0)) 15, 0), (gt 17 (.nilCheck (.t 16)) 15, 0), (gt 18 (.faddr 0 (.t 17)) 15, 0), (gt 19 (.faddr 8 (.t 18)) 15, 0), (gt 20 (.load (.t 19)) 15, 0), (gt 21 (.move (.t 0)) 15, 0), (gt 22 (.nilCheck (.t 21)) 15, 0), (gt 23 (.faddr 0 (.t 22)) 15, 0), (gt 24 (.faddr 3 (.t 23)) 15, 0), (gt 25 (.load (.t 24)) 15, 0), (gt 26 (.lenSl (.t 25)) 15, 0), (gt 27 (.bin .lss (.t 20) (.t 26)) 15, 0), (op 28 (.pick (.t 15) (.t 27) (.c (.bool false))), 0)])
 (.cond (.t 28) .skip (.exit 0)))
 (.seq (.block 1 (.seq (.reg [mv 31 0, op 32 (.nilCheck (.t 31)), op 33 (.faddr 0 (.t 32)), op 34 (.faddr 8 (.t 33)), op 35 (.load (.t 34)), mv 5 35])
 (.seq (.reg [mv 36 0, op 37 (.nilCheck (.t 36)), op 38 (.faddr 10 (.t 37)), op 39 (.load (.t 38)), mv 40 5, op 41 (.iaddr 1 (.t 39) (.t 40)), op 42 (.load (.t 41)), mv 6 42])
 (.seq (.reg [mv 43 0, op 44 (.nilCheck (.t 43)), op 45 (.faddr 0 (.t 44)), op 46 (.faddr 2 (.t 45)), op 47 (.load (.t 46)), op 48 (.lenSl (.t 47)), op 49 (.mkSlice 3 8 1 [(.int .i64 (.ofNat 0))] (.t 48) (.t 48)), mv 7 49])
 (.seq (.seq (.reg [mv 50 0, op 51 (.nilCheck (.t 50)), op 52 (.faddr 0 (.t 51)), op 53 (.faddr 2 (.t 52)), op 54 (.load (.t 53)), op 55 (.lenSl (.t 54)), op 56 (.move (ci 0))])
 (.block 2 (.loop (.seq (.reg [op 57 (.bin .lss (.t 56) (.t 55))])
 (.seq (.cond (.t 57) .skip (.exit 2))
 (.seq (.block 3 (.seq (.reg [mv 58 56, op 59 (.iaddr 1 (.t 54) (.t 56)), op 60 (.load (.t 59)), mv 8 58, mv 9 60])
 (.seq (.reg [mv 61 0, op 62 (.nilCheck (.t 61)), op 63 (.faddr 0 (.t 62)), op 64 (.faddr 3 (.t 63)), op 65 (.load (.t 64)), mv 66 5, op 67 (.iaddr 1 (.t 65) (.t 66)), op 68 (.load (.t 67)), mv 69 9, op 70 (.call 155 [(.t 68), (.t 69)]), mv 10 70])
 (.seq (.draw [(mv 72 0, 1), (op 73 (.nilCheck (.t 72)), 1), (op 74 (.faddr 9 (.t 73)), 1), (op 75 (.load (.t 74)), 1), (mv 76 10, 0), (op 77 (.call 154 [(.t 76)]), 1), (op 78 (.lookup (.one .str) (.int .i64 (.ofNat 0)) true (.t 75) (.t 77)), 1), (mv 71 78, 1), (op 79 (.extract 0 (.t 71)), 1), (op 80 (.extract 1 (.t 71)), 1), (mv 11 79, 1), (mv 12 80, 1)])
 (.seq (.seq (.reg [mv 81 12, op 82 (.not (.t 81))])
 (.cond (.t 82) (.seq (.seq (.reg [mv 83 0, op 84 (.nilCheck (.t 83)), op 85 (.faddr 0 (.t 84)), op 86 (.faddr 3 (.t 85)), op 87 (.load (.t 86)), op 88 (.lenSl (.t 87)), op 89 (.bin .geq (.t 88) (ci 2000))])
 (.cond (.t 89) (.seq (.reg [op 4 (.move (ci 3))])
 .ret) .skip))
 (.reg [mv 90 0, mv 91 10, mv 92 5, mv 93 8, mv 94 6, mv 95 8, op 96 (.call 160 [(.t 95)]), op 97 (.bin .add (.t 94) (.t 96)), op 98 (.call 157 [(.t 90), (.t 91), (.t 92), (.t 93), (.t 97)]), mv 11 98])) (.seq (.draw [(mv 99 6, 0), (op 100 (.bin .neq (.t 99) (.c (.string ⟨⟨[]⟩⟩))), 0), (mv 101 100, 0), (gt 102 (.move (.t 0)) 101, 1), (gt 103 (.move (.t 6)) 101, 1), (gt 104 (.sub (.t 103) (some (ci 1)) none) 101, 1), (gt 105 (.move (.t 8)) 101, 0), (gt 106 (.call 160 [(.t 105)]) 101, 1), (gt 107 (.bin .add (.t 104) (.t 106)) 101, 1), (gt 108 (.call 161 [(.t 102), (.t 107)]) 101, 2), (op 109 (.pick (.t 101) (.t 108) (.c (.bool false))), 2)])
 (.cond (.t 109) (.reg [mv 110 0, mv 111 6, mv 112 8, op 113 (.call 160 [(.t 112)]), op 114 (.bin .add (.t 111) (.t 113)), mv 115 11, op 116 (.call 159 [(.t 110), (.t 114), (.t 115)])]) .skip))))
 (.reg [mv 117 7, mv 118 8, mv 119 11, op 120 (.iaddr 1 (.t 117) (.t 118)), ⟨none, .store 1 (.t 120) (.t 119), none⟩]))))))
 (.reg [op 121 (.bin .add (.t 56) (ci 1)), mv 56 121])))))))
 (.seq (.reg [mv 122 0, mv 123 0, op 124 (.nilCheck (.t 123)), op 125 (.faddr 0 (.t 124)), op 126 (.faddr 6 (.t 125)), op 127 (.load (.t 126)), mv 128 7, op 129 (.buildSlice 22 1 1 [(.slice none 0 0)] [(0, (.t 128))]), op 130 (.append 22 1 24 (.t 127) (.t 129)), op 131 (.nilCheck (.t 122)), op 132 (.faddr 0 (.t 131)), op 133 (.faddr 6 (.t 132)), ⟨none, .store 1 (.t 133) (.t 130), none⟩])
 (.reg [mv 134 0, op 135 (.nilCheck (.t 134)), op 136 (.faddr 0 (.t 135)), op 137 (.faddr 8 (.t 136)), op 138 (.load (.t 137)), op 139 (.bin .add (.t 138) (ci 1)), op 140 (.nilCheck (.t 134)), op 141 (.faddr 0 (.t 140)), op 142 (.faddr 8 (.t 141)), ⟨none, .store 1 (.t 142) (.t 139), none⟩])))))))
 (.reg [mv 29 1, op 30 (.bin .sub (.t 29) (ci 1)), mv 1 30])))))
 (.seq (.reg [op 4 (.move (ci 0))])
 .ret)))⟩
theorem c152_ok : cFunc Go.Proofs.Try.prog Go.Proofs.Try.f152 = some c152 := by kernel_rfl
/-- semigroup/enumerate.again -/
def c153 : CFunc := ⟨144, [.tmp 2], (.seq (.reg [op 1 (.box 163 (.t 0)), op 2 (.move (.c (.pointer none)))])
 (.seq (.seq (.reg [op 6 (.faddr 3 (.t 1)), op 7 (.load (.t 6)), op 8 (.lenSl (.t 7)), op 9 (.bin .gtr (.t 8) (ci 2000)), mv 10 9, gf 11 (.faddr 8 (.t 1)) 10, gf 12 (.load (.t 11)) 10, gf 13 (.bin .lss (.t 12) (ci 0)) 10, op 14 (.pick (.t 10) (.c (.bool true)) (.t 13)), mv 15 14, gf 16 (.faddr 8 (.t 1)) 15, gf 17 (.load (.t 16)) 15, gf 18 (.faddr 3 (.t 1)) 15, gf 19 (.load (.t 18)) 15, gf 20 (.lenSl (.t 19)) 15, gf 21 (.bin .gtr (.t 17) (.t 20)) 15, op 22 (.pick (.t 15) (.c (.bool true)) (.t 21)), mv 23 22, gf 24 (.faddr 8 (.t 1)) 23, gf 25 (.load (.t 24)) 23, gf 26 (.faddr 6 (.t 1)) 23, gf 27 (.load (.t 26)) 23, gf 28 (.lenSl (.t 27)) 23, gf 29 (.bin .neq (.t 25) (.t 28)) 23, op 30 (.pick (.t 23) (.c (.bool true)) (.t 29))])
 (.cond (.t 30) (.seq (.reg [op 2 (.move (.c (.pointer none)))])
 .ret) .skip))
 (.seq (.reg [op 32 (.faddr 2 (.t 1)), op 33 (.load (.t 32)), op 34 (.faddr 1 (.t 1)), op 35 (.load (.t 34)), op 36 (.call 151 [(.t 33), (.t 35)]), mv 31 36, op 37 (.extract 0 (.t 31)), op 38 (.extract 1 (.t 31)), mv 3 37, mv 4 38])
 (.seq (.seq (.reg [mv 39 4, op 40 (.bin .neq (.t 39) (ci 0)), mv 41 40, gf 42 (.move (.t 3)) 41, gf 43 (.faddr 8 (.t 1)) 41, gf 44 (.load (.t 43)) 41, gf 45 (.call 152 [(.t 42), (.t 44)]) 41, gf 46 (.bin .neq (.t 45) (ci 0)) 41, op 47 (.pick (.t 41) (.c (.bool true)) (.t 46))])
 (.cond (.t 47) (.seq (.reg [op 2 (.move (.c (.pointer none)))])
 .ret) .skip))
 (.seq (.seq (.draw [(mv 48 3, 0), (op 49 (.nilCheck (.t 48)), 0), (op 50 (.faddr 0 (.t 49)), 0), (op 51 (.faddr 0 (.t 50)), 0), (op 52 (.load (.t 51)), 0), (op 53 (.faddr 0 (.t 1)), 0), (op 54 (.load (.t 53)), 0), (op 55 (.bin .neq (.t 52) (.t 54)), 0), (mv 56 55, 0), (gf 57 (.move (.t 3)) 56, 0), (gf 58 (.nilCheck (.t 57)) 56, 0), (gf 59 (.faddr 0 (.t 58)) 56, 0), (gf 60 (.faddr 8 (.t 59)) 56, 0), (gf 61 (.load (.t 60)) 56, 0), (gf 62 (.faddr 8 (.t 1)) 56, 0), (gf 63 (.load (.t 62)) 56, 0), (gf 64 (.bin .neq (.t 61) (.t 63)) 56, 0), (op 65 (.pick (.t 56) (.c (.bool true)) (.t 64)), 0), (mv 66 65, 0), (gf 67 (.move (.t 3)) 66, 0), (gf 68 (.nilCheck (.t 67)) 66, 0), (gf 69 (.faddr 0 (.t 68)) 66, 0), (gf 70 (.faddr 3 (.t 69)) 66, 0), (gf 71 (.load (.t 70)) 66, 0), (gf 72 (.faddr 3 (.t 1)) 66, 0), (gf 73 (.load (.t 72)) 66, 0), (gf 74 (.call 162 [(.t 71), (.t 73)]) 66, 1), (gf 75 (.not (.t 74)) 66, 1), (op 76 (.pick (.t 66) (.c (.bool true)) (.t 75)), 1), (mv 77 76, 1), (gf 78 (.move (.t 3)) 77, 1), (gf 79 (.nilCheck (.t 78)) 77, 1), (gf 80 (.faddr 0 (.t 79)) 77, 1), (gf 81 (.faddr 6 (.t 80)) 77, 1), (gf 82 (.load (.t 81)) 77, 1), (gf 83 (.faddr 6 (.t 1)) 77, 1), (gf 84 (.load (.t 83)) 77, 1), (gf 85 (.call 162 [(.t 82), (.t 84)]) 77, 2), (gf 86 (.not (.t 85)) 77, 2), (op 87 (.pick (.t 77) (.c (.bool true)) (.t 86)), 2), (mv 88 87, 2), (gf 89 (.move (.t 3)) 88, 2), (gf 90 (.nilCheck (.t 89)) 88, 2), (gf 91 (.faddr 0 (.t 90)) 88, 2), (gf 92 (.faddr 4 (.t 91)) 88, 2), (gf 93 (.load (.t 92)) 88, 2), (gf 94 (.faddr 4 (.t 1)) 88, 2), (gf 95 (.load (.t 94)) 88, 2), (gf 96 (.call 163 [(.t 93), (.t 95)]) 88, 3), (gf 97 (.not (.t 96)) 88, 3), (op 98 (.pick (.t 88) (.c (.bool true)) (.t 97)), 3), (mv 99 98, 3), (gf 100 (.move (.t 3)) 99, 3), (gf 101 (.nilCheck (.t 100)) 99, 3), (gf 102 (.faddr 0 (.t 101)) 99, 3), (gf 103 (.faddr 5 (.t 102)) 99, 3), (gf 104 (.load (.t 103)) 99, 3), (gf 105 (.faddr 5 (.t 1)) 99, 3), (gf 106 (.load (.t 105)) 99, 3), (gf 107 (.call 163 [(.t 104), (.t 106)]) 99, 4), (gf 108 (.not (.t 107)) 99, 4), (op 109 (.pick (.t 99) (.c (.bool true)) (.t 108)), 4), (mv 110 109, 4), (gf 111 (.move (.t 3)) 110, 4), (gf 112 (.nilCheck (.t 111)) 110, 4), (gf 113 (.faddr 0 (.t 112)) 110, 4), (gf 114 (.faddr 7 (.t 113)) 110, 4), (gf 115 (.load (.t 114)) 110, 4), (gf 116 (.lenSl (.t 115)) 110, 4), (gf 117 (.faddr 7 (.t 1)) 110, 4), (gf 118 (.load (.t 117)) 110, 4), (gf 119 (.lenSl (.t 118)) 110, 4), (gf 120 (.bin .neq (.t 116) (.t 119)) 110, 4), (op 121 (.pick (.t 110) (.c (.bool true)) (.t 120)), 4)])
 (.cond (.t 121) (.seq (.reg [op 2 (.move (.c (.pointer none)))])
 .ret) .skip))
 (.seq (.seq (.reg [op 122 (.faddr 7 (.t 1)), op 123 (.load (.t 122)), op 124 (.lenSl (.t 123)), op 125 (.move (ci 0))])
 (.block 0 (.loop (.seq (.reg [op 126 (.bin .lss (.t 125) (.t 124))])
 (.seq (.cond (.t 126) .skip (.exit 0))
 (.seq (.block 1 (.seq (.reg [mv 127 125, mv 5 127])
 (.seq (.draw [(mv 128 3, 0), (op 129 (.nilCheck (.t 128)), 0), (op 130 (.faddr 0 (.t 129)), 0), (op 131 (.faddr 7 (.t 130)), 0), (op 132 (.load (.t 131)), 0), (mv 133 5, 0), (op 134 (.iaddr 2 (.t 132) (.t 133)), 0), (op 135 (.loadN 2 (.t 134)), 0), (op 136 (.faddr 7 (.t 1)), 0), (op 137 (.load (.t 136)), 0), (mv 138 5, 0), (op 139 (.iaddr 2 (.t 137) (.t 138)), 0), (op 140 (.loadN 2 (.t 139)), 0), (op 141 (.eqFlat (.row [.str, .str]) true (.t 135) (.t 140)), 0)])
 (.cond (.t 141) (.seq (.reg [op 2 (.move (.c (.pointer none)))])
 .ret) .skip))))
 (.reg [op 142 (.bin .add (.t 125) (ci 1)), mv 125 142])))))))
 (.seq (.reg [mv 143 3, mv 2 143])
 .ret)))))))⟩
theorem c153_ok : cFunc Go.Proofs.Try.prog Go.Proofs.Try.f153 = some c153 := by kernel_rfl
/-- semigroup/enumerate.key -/
def c154 : CFunc := ⟨24, [.tmp 2], (.seq (.reg [op 2 (.move (.c (.string ⟨⟨[]⟩⟩)))])
 (.seq (.reg [mv 6 0, op 7 (.lenSl (.t 6)), op 8 (.mkSlice 5 1 1 [(.int .u8 (.ofNat 0))] (.t 7) (.t 7)), mv 3 8])
 (.seq (.seq (.reg [mv 9 0, op 10 (.lenSl (.t 9)), op 11 (.move (ci 0))])
 (.block 0 (.loop (.seq (.reg [op 12 (.bin .lss (.t 11) (.t 10))])
 (.seq (.cond (.t 12) .skip (.exit 0))
 (.seq (.block 1 (.seq (.reg [mv 13 11, op 14 (.iaddr 1 (.t 9) (.t 11)), op 15 (.load (.t 14)), mv 4 13, mv 5 15])
 (.reg [mv 16 3, mv 17 4, mv 18 5, op 19 (.conv .u8 (.t 18)), op 20 (.iaddr 1 (.t 16) (.t 17)), ⟨none, .store 1 (.t 20) (.t 19), none⟩])))
 (.reg [op 21 (.bin .add (.t 11) (ci 1)), mv 11 21])))))))
 (.seq (.reg [mv 22 3, op 23 (.strOf (.t 22)), mv 2 23])
 .ret))))⟩
theorem c154_ok : cFunc Go.Proofs.Try.prog Go.Proofs.Try.f154 = some c154 := by kernel_rfl
/-- semigroup/trans.Compose -/
def c155 : CFunc := ⟨23, [.tmp 4], (.seq (.reg [op 4 (.move (.c (.slice none 0 0)))])
 (.seq (.seq (.reg [mv 5 0, op 6 (.lenSl (.t 5)), mv 7 1, op 8 (.lenSl (.t 7)), op 9 (.bin .neq (.t 6) (.t 8)), mv 10 9, gf 11 (.move (.t 0)) 10, gf 12 (.call 156 [(.t 11)]) 10, gf 13 (.not (.t 12)) 10, op 14 (.pick (.t 10) (.c (.bool true)) (.t 13)), mv 15 14, gf 16 (.move (.t 1)) 15, gf 17 (.call 156 [(.t 16)]) 15, gf 18 (.not (.t 17)) 15, op 19 (.pick (.t 15) (.c (.bool true)) (.t 18))])
 (.cond (.t 19) (.seq (.reg [op 4 (.move (.c (.slice none 0 0)))])
 .ret) .skip))
 (.seq (.reg [mv 20 0, mv 21 1, op 22 (.call 164 [(.t 20), (.t 21)]), mv 4 22])
 .ret)))⟩
theorem c155_ok : cFunc Go.Proofs.Try.prog Go.Proofs.Try.f155 = some c155 := by kernel_rfl
/-- semigroup/trans.Valid -/
def c156 : CFunc := ⟨28, [.tmp 2], (.seq (.reg [op 2 (.move (.c (.bool false)))])
 (.seq (.seq (.reg [mv 5 0, op 6 (.lenSl (.t 5)), op 7 (.bin .lss (.t 6) (ci 1)), mv 8 7, gf 9 (.move (.t 0)) 8, gf 10 (.lenSl (.t 9)) 8, gf 11 (.bin .gtr (.t 10) (ci 32)) 8, op 12 (.pick (.t 8) (.c (.bool true)) (.t 11))])
 (.cond (.t 12) (.seq (.reg [op 2 (.move (.c (.bool false)))])
 .ret) .skip))
 (.seq (.seq (.reg [mv 13 0, op 14 (.lenSl (.t 13)), op 15 (.move (ci 0))])
 (.block 0 (.loop (.seq (.reg [op 16 (.bin .lss (.t 15) (.t 14))])
 (.seq (.cond (.t 16) .skip (.exit 0))
 (.seq (.block 1 (.seq (.reg [op 17 (.iaddr 1 (.t 13) (.t 15)), op 18 (.load (.t 17)), mv 4 18])
 (.seq (.reg [mv 19 4, op 20 (.bin .lss (.t 19) (ci 0)), mv 21 20, gf 22 (.move (.t 4)) 21, gf 23 (.move (.t 0)) 21, gf 24 (.lenSl (.t 23)) 21, gf 25 (.bin .geq (.t 22) (.t 24)) 21, op 26 (.pick (.t 21) (.c (.bool true)) (.t 25))])
 (.cond (.t 26) (.seq (.reg [op 2 (.move (.c (.bool false)))])
 .ret) .skip))))
 (.reg [op 27 (.bin .add (.t 15) (ci 1)), mv 15 27])))))))
 (.seq (.reg [op 2 (.move (.c (.bool true)))])
 .ret))))⟩
theorem c156_ok : cFunc Go.Proofs.Try.prog Go.Proofs.Try.f156 = some c156 := by kernel_rfl
/-- (*semigroup/enumerate.work).add -/
def c157 : CFunc := ⟨74, [.tmp 10], (.seq (.reg [op 10 (.move (ci 0))])
 (.seq (.reg [mv 12 0, op 13 (.nilCheck (.t 12)), op 14 (.faddr 0 (.t 13)), op 15 (.faddr 3 (.t 14)), op 16 (.load (.t 15)), op 17 (.lenSl (.t 16)), mv 11 17])
 (.seq (.draw [(mv 18 0, 1), (op 19 (.nilCheck (.t 18)), 1), (op 20 (.faddr 9 (.t 19)), 1), (op 21 (.load (.t 20)), 1), (mv 22 1, 0), (mv 24 11, 1), (op 23 (.call 154 [(.t 22)]), 1), (⟨none, .mapSet (.one .str) (.t 21) (.t 23) (.t 24), none⟩, 2)])
 (.seq (.draw [(mv 25 0, 2), (mv 26 0, 1), (op 27 (.nilCheck (.t 26)), 1), (op 28 (.faddr 0 (.t 27)), 1), (op 29 (.faddr 3 (.t 28)), 1), (op 30 (.load (.t 29)), 1), (op 31 (.buildSlice 3 1 0 [] []), 0), (mv 32 1, 0), (op 33 (.append 3 1 8 (.t 31) (.t 32)), 1), (op 34 (.buildSlice 22 1 1 [(.slice none 0 0)] [(0, (.t 33))]), 1), (op 35 (.append 22 1 24 (.t 30) (.t 34)), 2), (op 36 (.nilCheck (.t 25)), 2), (op 37 (.faddr 0 (.t 36)), 2), (op 38 (.faddr 3 (.t 37)), 2), (⟨none, .store 1 (.t 38) (.t 35), none⟩, 3)])
 (.seq (.draw [(mv 39 0, 2), (mv 40 0, 3), (mv 41 0, 0), (op 42 (.nilCheck (.t 41)), 0), (op 43 (.faddr 0 (.t 42)), 0), (op 44 (.faddr 4 (.t 43)), 0), (op 45 (.load (.t 44)), 0), (mv 46 2, 0), (op 47 (.buildSlice 3 1 1 [(.int .i64 (.ofNat 0))] [(0, (.t 46))]), 0), (mv 49 0, 1), (op 50 (.nilCheck (.t 49)), 1), (op 51 (.faddr 0 (.t 50)), 1), (op 52 (.faddr 5 (.t 51)), 1), (op 53 (.load (.t 52)), 1), (mv 54 3, 1), (op 55 (.buildSlice 3 1 1 [(.int .i64 (.ofNat 0))] [(0, (.t 54))]), 1), (op 48 (.append 3 1 8 (.t 45) (.t 47)), 1), (op 56 (.append 3 1 8 (.t 53) (.t 55)), 2), (op 57 (.nilCheck (.t 39)), 2), (op 58 (.faddr 0 (.t 57)), 2), (op 59 (.faddr 4 (.t 58)), 2), (⟨none, .store 1 (.t 59) (.t 48), none⟩, 3), (op 60 (.nilCheck (.t 40)), 3), (op 61 (.faddr 0 (.t 60)), 3), (op 62 (.faddr 5 (.t 61)), 3), (⟨none, .store 1 (.t 62) (.t 56), none⟩, 4)])
 (.seq (.reg [mv 63 0, mv 64 0, op 65 (.nilCheck (.t 64)), op 66 (.faddr 10 (.t 65)), op 67 (.load (.t 66)), mv 68 4, op 69 (.buildSlice 9 1 1 [(.string ⟨⟨[]⟩⟩)] [(0, (.t 68))]), op 70 (.append 9 1 16 (.t 67) (.t 69)), op 71 (.nilCheck (.t 63)), op 72 (.faddr 10 (.t 71)), ⟨none, .store 1 (.t 72) (.t 70), none⟩])
 (.seq (.reg [mv 73 11, mv 10 73])
 .ret)))))))⟩
theorem c157_ok : cFunc Go.Proofs.Try.prog Go.Proofs.Try.f157 = some c157 := by kernel_rfl
/-- semigroup/trans.Identity -/
def c158 : CFunc := ⟨11, [.tmp 2], (.seq (.reg [op 2 (.move (.c (.slice none 0 0)))])
 (.seq (.seq (.reg [mv 3 0, op 4 (.bin .lss (.t 3) (ci 1)), mv 5 4, gf 6 (.move (.t 0)) 5, gf 7 (.bin .gtr (.t 6) (ci 32)) 5, op 8 (.pick (.t 5) (.c (.bool true)) (.t 7))])
 (.cond (.t 8) (.seq (.reg [op 2 (.move (.c (.slice none 0 0)))])
 .ret) .skip))
 (.seq (.reg [mv 9 0, op 10 (.call 165 [(.t 9)]), mv 2 10])
 .ret)))⟩
theorem c158_ok : cFunc Go.Proofs.Try.prog Go.Proofs.Try.f158 = some c158 := by kernel_rfl
/-- (*semigroup/enumerate.work).rule -/
def c159 : CFunc := ⟨26, [], (.draw [(mv 6 0, 1), (mv 7 0, 0), (op 8 (.nilCheck (.t 7)), 0), (op 9 (.faddr 0 (.t 8)), 0), (op 10 (.faddr 7 (.t 9)), 0), (op 11 (.load (.t 10)), 0), (mv 12 1, 0), (mv 13 0, 0), (op 14 (.nilCheck (.t 13)), 0), (op 15 (.faddr 10 (.t 14)), 0), (op 16 (.load (.t 15)), 0), (mv 17 2, 0), (op 18 (.iaddr 1 (.t 16) (.t 17)), 0), (op 19 (.load (.t 18)), 0), (op 20 (.build [(.string ⟨⟨[]⟩⟩), (.string ⟨⟨[]⟩⟩)] [(0, 1, (.t 12)), (1, 1, (.t 19))]), 0), (op 21 (.buildSlice 197 2 1 [(.string ⟨⟨[]⟩⟩), (.string ⟨⟨[]⟩⟩)] [(0, (.t 20))]), 0), (op 22 (.append 197 2 32 (.t 11) (.t 21)), 1), (op 23 (.nilCheck (.t 6)), 1), (op 24 (.faddr 0 (.t 23)), 1), (op 25 (.faddr 7 (.t 24)), 1), (⟨none, .store 1 (.t 25) (.t 22), none⟩, 2)])⟩
theorem c159_ok : cFunc Go.Proofs.Try.prog Go.Proofs.Try.f159 = some c159 := by kernel_rfl
/-- semigroup/enumerate.letter -/
def c160 : CFunc := ⟨7, [.tmp 2], (.seq (.reg [op 2 (.move (.c (.string ⟨⟨[]⟩⟩)))])
 (.seq (.reg [mv 3 0, mv 4 0, op 5 (.bin .add (.t 4) (ci 1)), op 6 (.sub (.c (.string ⟨⟨[97, 98, 99, 100, 101, 102]⟩⟩)) (some (.t 3)) (some (.t 5))), mv 2 6])
 .ret))⟩
theorem c160_ok : cFunc Go.Proofs.Try.prog Go.Proofs.Try.f160 = some c160 := by kernel_rfl
/-- (*semigroup/enumerate.work).reduced -/
def c161 : CFunc := ⟨37, [.tmp 4], (.seq (.reg [op 4 (.move (.c (.bool false)))])
 (.seq (.reg [mv 8 0, op 9 (.nilCheck (.t 8)), op 10 (.faddr 0 (.t 9)), op 11 (.faddr 2 (.t 10)), op 12 (.load (.t 11)), mv 13 1, op 14 (.call 166 [(.t 12), (.t 13)]), mv 5 14])
 (.seq (.draw [(mv 16 0, 1), (op 17 (.nilCheck (.t 16)), 1), (op 18 (.faddr 9 (.t 17)), 1), (op 19 (.load (.t 18)), 1), (mv 20 5, 0), (op 21 (.call 154 [(.t 20)]), 1), (op 22 (.lookup (.one .str) (.int .i64 (.ofNat 0)) true (.t 19) (.t 21)), 1), (mv 15 22, 1), (op 23 (.extract 0 (.t 15)), 1), (op 24 (.extract 1 (.t 15)), 1), (mv 6 23, 1), (mv 7 24, 1)])
 (.seq (.reg [mv 25 7, mv 26 25, gt 27 (.move (.t 0)) 26, gt 28 (.nilCheck (.t 27)) 26, gt 29 (.faddr 10 (.t 28)) 26, gt 30 (.load (.t 29)) 26, gt 31 (.move (.t 6)) 26, gt 32 (.iaddr 1 (.t 30) (.t 31)) 26, gt 33 (.load (.t 32)) 26, gt 34 (.move (.t 1)) 26, gt 35 (.bin .eql (.t 33) (.t 34)) 26, op 36 (.pick (.t 26) (.t 35) (.c (.bool false))), mv 4 36])
 .ret))))⟩
theorem c161_ok : cFunc Go.Proofs.Try.prog Go.Proofs.Try.f161 = some c161 := by kernel_rfl
/-- semigroup/enumerate.sameLists -/
def c162 : CFunc := ⟨27, [.tmp 4], (.seq (.reg [op 4 (.move (.c (.bool false)))])
 (.seq (.seq (.reg [mv 6 0, op 7 (.lenSl (.t 6)), mv 8 1, op 9 (.lenSl (.t 8)), op 10 (.bin .neq (.t 7) (.t 9))])
 (.cond (.t 10) (.seq (.reg [op 4 (.move (.c (.bool false)))])
 .ret) .skip))
 (.seq (.seq (.reg [mv 11 0, op 12 (.lenSl (.t 11)), op 13 (.move (ci 0))])
 (.block 0 (.loop (.seq (.reg [op 14 (.bin .lss (.t 13) (.t 12))])
 (.seq (.cond (.t 14) .skip (.exit 0))
 (.seq (.block 1 (.seq (.reg [mv 15 13, mv 5 15])
 (.seq (.draw [(mv 16 0, 0), (mv 17 5, 0), (op 18 (.iaddr 1 (.t 16) (.t 17)), 0), (op 19 (.load (.t 18)), 0), (mv 20 1, 0), (mv 21 5, 0), (op 22 (.iaddr 1 (.t 20) (.t 21)), 0), (op 23 (.load (.t 22)), 0), (op 24 (.call 163 [(.t 19), (.t 23)]), 1), (op 25 (.not (.t 24)), 1)])
 (.cond (.t 25) (.seq (.reg [op 4 (.move (.c (.bool false)))])
 .ret) .skip))))
 (.reg [op 26 (.bin .add (.t 13) (ci 1)), mv 13 26])))))))
 (.seq (.reg [op 4 (.move (.c (.bool true)))])
 .ret))))⟩
theorem c162_ok : cFunc Go.Proofs.Try.prog Go.Proofs.Try.f162 = some c162 := by kernel_rfl
/-- semigroup/enumerate.sameInts -/
def c163 : CFunc := Go.EvK.c_ref03_Same
theorem c163_ok : cFunc Go.Proofs.Try.prog Go.Proofs.Try.f163 = some c163 := by kernel_rfl
/-- semigroup/trans.compose -/
def c164 : CFunc := ⟨27, [.tmp 4], (.seq (.reg [op 4 (.move (.c (.slice none 0 0)))])
 (.seq (.reg [mv 8 0, op 9 (.lenSl (.t 8)), op 10 (.mkSlice 3 8 1 [(.int .i64 (.ofNat 0))] (.t 9) (.t 9)), mv 5 10])
 (.seq (.seq (.reg [mv 11 0, op 12 (.lenSl (.t 11)), op 13 (.move (ci 0))])
 (.block 0 (.loop (.seq (.reg [op 14 (.bin .lss (.t 13) (.t 12))])
 (.seq (.cond (.t 14) .skip (.exit 0))
 (.seq (.block 1 (.seq (.reg [mv 15 13, op 16 (.iaddr 1 (.t 11) (.t 13)), op 17 (.load (.t 16)), mv 6 15, mv 7 17])
 (.reg [mv 18 5, mv 19 6, mv 20 1, mv 21 7, op 22 (.iaddr 1 (.t 20) (.t 21)), op 23 (.load (.t 22)), op 24 (.iaddr 1 (.t 18) (.t 19)), ⟨none, .store 1 (.t 24) (.t 23), none⟩])))
 (.reg [op 25 (.bin .add (.t 13) (ci 1)), mv 13 25])))))))
 (.seq (.reg [mv 26 5, mv 4 26])
 .ret))))⟩
theorem c164_ok : cFunc Go.Proofs.Try.prog Go.Proofs.Try.f164 = some c164 := by kernel_rfl
/-- semigroup/partition.Discrete -/
def c165 : CFunc := ⟨24, [.tmp 2], (.seq (.reg [op 2 (.move (.c (.slice none 0 0)))])
 (.seq (.seq (.reg [mv 5 0, op 6 (.bin .lss (.t 5) (ci 0)), mv 7 6, gf 8 (.move (.t 0)) 7, gf 9 (.bin .gtr (.t 8) (ci 4096)) 7, op 10 (.pick (.t 7) (.c (.bool true)) (.t 9))])
 (.cond (.t 10) (.seq (.reg [op 2 (.move (.c (.slice none 0 0)))])
 .ret) .skip))
 (.seq (.reg [mv 11 0, op 12 (.mkSlice 3 8 1 [(.int .i64 (.ofNat 0))] (.t 11) (.t 11)), mv 3 12])
 (.seq (.seq (.reg [mv 13 3, op 14 (.lenSl (.t 13)), op 15 (.move (ci 0))])
 (.block 0 (.loop (.seq (.reg [op 16 (.bin .lss (.t 15) (.t 14))])
 (.seq (.cond (.t 16) .skip (.exit 0))
 (.seq (.block 1 (.seq (.reg [mv 17 15, mv 4 17])
 (.reg [mv 18 3, mv 19 4, mv 20 4, op 21 (.iaddr 1 (.t 18) (.t 19)), ⟨none, .store 1 (.t 21) (.t 20), none⟩])))
 (.reg [op 22 (.bin .add (.t 15) (ci 1)), mv 15 22])))))))
 (.seq (.reg [mv 23 3, mv 2 23])
 .ret)))))⟩
theorem c165_ok : cFunc Go.Proofs.Try.prog Go.Proofs.Try.f165 = some c165 := by kernel_rfl
/-- semigroup/trans.OfWord -/
def c166 : CFunc := ⟨62, [.tmp 4], (.seq (.reg [op 4 (.move (.c (.slice none 0 0)))])
 (.seq (.seq (.reg [mv 10 0, op 11 (.lenSl (.t 10)), op 12 (.bin .lss (.t 11) (ci 1)), mv 13 12, gf 14 (.move (.t 0)) 13, gf 15 (.lenSl (.t 14)) 13, gf 16 (.bin .gtr (.t 15) (ci 6)) 13, op 17 (.pick (.t 13) (.c (.bool true)) (.t 16)), mv 18 17, gf 19 (.move (.t 1)) 18, gf 20 (.move (.t 0)) 18, gf 21 (.lenSl (.t 20)) 18, gf 22 (.call 44 [(.t 19), (.t 21)]) 18, gf 23 (.not (.t 22)) 18, op 24 (.pick (.t 18) (.c (.bool true)) (.t 23))])
 (.cond (.t 24) (.seq (.reg [op 4 (.move (.c (.slice none 0 0)))])
 .ret) .skip))
 (.seq (.seq (.reg [mv 25 0, op 26 (.lenSl (.t 25)), op 27 (.move (ci 0))])
 (.block 0 (.loop (.seq (.reg [op 28 (.bin .lss (.t 27) (.t 26))])
 (.seq (.cond (.t 28) .skip (.exit 0))
 (.seq (.block 1 (.seq (.reg [op 29 (.iaddr 1 (.t 25) (.t 27)), op 30 (.load (.t 29)), mv 6 30])
 (.seq (.reg [mv 31 6, op 32 (.call 156 [(.t 31)]), op 33 (.not (.t 32)), mv 34 33, gf 35 (.move (.t 6)) 34, gf 36 (.lenSl (.t 35)) 34, gf 37 (.move (.t 0)) 34, gf 38 (.iaddr 1 (.t 37) (ci 0)) 34, gf 39 (.load (.t 38)) 34, gf 40 (.lenSl (.t 39)) 34, gf 41 (.bin .neq (.t 36) (.t 40)) 34, op 42 (.pick (.t 34) (.c (.bool true)) (.t 41))])
 (.cond (.t 42) (.seq (.reg [op 4 (.move (.c (.slice none 0 0)))])
 .ret) .skip))))
 (.reg [op 43 (.bin .add (.t 27) (ci 1)), mv 27 43])))))))
 (.seq (.reg [mv 44 0, op 45 (.iaddr 1 (.t 44) (ci 0)), op 46 (.load (.t 45)), op 47 (.lenSl (.t 46)), op 48 (.call 158 [(.t 47)]), mv 7 48])
 (.seq (.seq (.reg [mv 49 1, op 50 (.range (.t 49))])
 (.block 2 (.loop (.seq (.reg [op 51 (.next (.t 50)), op 52 (.extract 0 (.t 51))])
 (.seq (.cond (.t 52) .skip (.exit 2))
 (.block 3 (.seq (.reg [op 53 (.extract 2 (.t 51)), mv 9 53])
 (.reg [mv 54 7, mv 55 0, mv 56 9, op 57 (.bin .sub (.t 56) (.c (.int .i32 (.ofNat 97)))), op 58 (.iaddr 1 (.t 55) (.t 57)), op 59 (.load (.t 58)), op 60 (.call 164 [(.t 54), (.t 59)]), mv 7 60]))))))))
 (.seq (.reg [mv 61 7, mv 4 61])
 .ret))))))⟩
theorem c166_ok : cFunc Go.Proofs.Try.prog Go.Proofs.Try.f166 = some c166 := by kernel_rfl
def cprog : Nat → Option CFunc
  | 22 => some c22
  | 23 => some c23
  | 26 => some c26
  | 44 => some c44
  | 49 => some c49
  | 60 => some c60
  | 61 => some c61
  | 62 => some c62
  | 63 => some c63
  | 67 => some c67
  | 75 => some c75
  | 78 => some c78
  | 79 => some c79
  | 91 => some c91
  | 92 => some c92
  | 93 => some c93
  | 94 => some c94
  | 95 => some c95
  | 96 => some c96
  | 97 => some c97
  | 102 => some c102
  | 110 => some c110
  | 111 => some c111
  | 112 => some c112
  | 113 => some c113
  | 114 => some c114
  | 115 => some c115
  | 116 => some c116
  | 117 => some c117
  | 118 => some c118
  | 119 => some c119
  | 121 => some c121
  | 122 => some c122
  | 123 => some c123
  | 126 => some c126
  | 127 => some c127
  | 128 => some c128
  | 129 => some c129
  | 130 => some c130
  | 131 => some c131
  | 132 => some c132
  | 133 => some c133
  | 134 => some c134
  | 135 => some c135
  | 136 => some c136
  | 137 => some c137
  | 138 => some c138
  | 139 => some c139
  | 140 => some c140
  | 141 => some c141
  | 142 => some c142
  | 143 => some c143
  | 144 => some c144
  | 145 => some c145
  | 146 => some c146
  | 147 => some c147
  | 148 => some c148
  | 149 => some c149
  | 150 => some c150
  | 151 => some c151
  | 152 => some c152
  | 153 => some c153
  | 154 => some c154
  | 155 => some c155
  | 156 => some c156
  | 157 => some c157
  | 158 => some c158
  | 159 => some c159
  | 160 => some c160
  | 161 => some c161
  | 162 => some c162
  | 163 => some c163
  | 164 => some c164
  | 165 => some c165
  | 166 => some c166
  | _ => none
theorem cprog_ok : ProgOk Go.Proofs.Try.prog cprog := by
  intro f cf h
  unfold cprog at h
  split at h
  · cases h; exact .inl ⟨_, Go.Proofs.Try.func22, c22_ok, by decide +kernel⟩
  · cases h; exact .inl ⟨_, Go.Proofs.Try.func23, c23_ok, by decide +kernel⟩
  · cases h; exact .inl ⟨_, Go.Proofs.Try.func26, c26_ok, by decide +kernel⟩
  · cases h; exact .inl ⟨_, Go.Proofs.Try.func44, c44_ok, by decide +kernel⟩
  · cases h; exact .inl ⟨_, Go.Proofs.Try.func49, c49_ok, by decide +kernel⟩
  · cases h; exact .inl ⟨_, Go.Proofs.Try.func60, c60_ok, by decide +kernel⟩
  · cases h; exact .inl ⟨_, Go.Proofs.Try.func61, c61_ok, by decide +kernel⟩
  · cases h; exact .inl ⟨_, Go.Proofs.Try.func62, c62_ok, by decide +kernel⟩
  · cases h; exact .inl ⟨_, Go.Proofs.Try.func63, c63_ok, by decide +kernel⟩
  · cases h; exact .inl ⟨_, Go.Proofs.Try.func67, c67_ok, by decide +kernel⟩
  · cases h; exact .inl ⟨_, Go.Proofs.Try.func75, c75_ok, by decide +kernel⟩
  · cases h; exact .inl ⟨_, Go.Proofs.Try.func78, c78_ok, by decide +kernel⟩
  · cases h; exact .inl ⟨_, Go.Proofs.Try.func79, c79_ok, by decide +kernel⟩
  · cases h; exact .inl ⟨_, Go.Proofs.Try.func91, c91_ok, by decide +kernel⟩
  · cases h; exact .inl ⟨_, Go.Proofs.Try.func92, c92_ok, by decide +kernel⟩
  · cases h; exact .inl ⟨_, Go.Proofs.Try.func93, c93_ok, by decide +kernel⟩
  · cases h; exact .inl ⟨_, Go.Proofs.Try.func94, c94_ok, by decide +kernel⟩
  · cases h; exact .inl ⟨_, Go.Proofs.Try.func95, c95_ok, by decide +kernel⟩
  · cases h; exact .inl ⟨_, Go.Proofs.Try.func96, c96_ok, by decide +kernel⟩
  · cases h; exact .inl ⟨_, Go.Proofs.Try.func97, c97_ok, by decide +kernel⟩
  · cases h; exact .inl ⟨_, Go.Proofs.Try.func102, c102_ok, by decide +kernel⟩
  · cases h; exact .inl ⟨_, Go.Proofs.Try.func110, c110_ok, by decide +kernel⟩
  · cases h; exact .inl ⟨_, Go.Proofs.Try.func111, c111_ok, by decide +kernel⟩
  · cases h; exact .inl ⟨_, Go.Proofs.Try.func112, c112_ok, by decide +kernel⟩
  · cases h; exact .inl ⟨_, Go.Proofs.Try.func113, c113_ok, by decide +kernel⟩
  · cases h; exact .inl ⟨_, Go.Proofs.Try.func114, c114_ok, by decide +kernel⟩
  · cases h; exact .inl ⟨_, Go.Proofs.Try.func115, c115_ok, by decide +kernel⟩
  · cases h; exact .inl ⟨_, Go.Proofs.Try.func116, c116_ok, by decide +kernel⟩
  · cases h; exact .inl ⟨_, Go.Proofs.Try.func117, c117_ok, by decide +kernel⟩
  · cases h; exact .inl ⟨_, Go.Proofs.Try.func118, c118_ok, by decide +kernel⟩
  · cases h; exact .inl ⟨_, Go.Proofs.Try.func119, c119_ok, by decide +kernel⟩
  · cases h; exact .inl ⟨_, Go.Proofs.Try.func121, c121_ok, by decide +kernel⟩
  · cases h; exact .inl ⟨_, Go.Proofs.Try.func122, c122_ok, by decide +kernel⟩
  · cases h; exact .inl ⟨_, Go.Proofs.Try.func123, c123_ok, by decide +kernel⟩
  · cases h; exact .inl ⟨_, Go.Proofs.Try.func126, c126_ok, by decide +kernel⟩
  · cases h; exact .inl ⟨_, Go.Proofs.Try.func127, c127_ok, by decide +kernel⟩
  · cases h; exact .inl ⟨_, Go.Proofs.Try.func128, c128_ok, by decide +kernel⟩
  · cases h; exact .inl ⟨_, Go.Proofs.Try.func129, c129_ok, by decide +kernel⟩
  · cases h; exact .inl ⟨_, Go.Proofs.Try.func130, c130_ok, by decide +kernel⟩
  · cases h; exact .inl ⟨_, Go.Proofs.Try.func131, c131_ok, by decide +kernel⟩
  · cases h; exact .inl ⟨_, Go.Proofs.Try.func132, c132_ok, by decide +kernel⟩
  · cases h; exact .inl ⟨_, Go.Proofs.Try.func133, c133_ok, by decide +kernel⟩
  · cases h; exact .inl ⟨_, Go.Proofs.Try.func134, c134_ok, by decide +kernel⟩
  · cases h; exact .inl ⟨_, Go.Proofs.Try.func135, c135_ok, by decide +kernel⟩
  · cases h; exact .inl ⟨_, Go.Proofs.Try.func136, c136_ok, by decide +kernel⟩
  · cases h; exact .inl ⟨_, Go.Proofs.Try.func137, c137_ok, by decide +kernel⟩
  · cases h; exact .inl ⟨_, Go.Proofs.Try.func138, c138_ok, by decide +kernel⟩
  · cases h; exact .inl ⟨_, Go.Proofs.Try.func139, c139_ok, by decide +kernel⟩
  · cases h; exact .inl ⟨_, Go.Proofs.Try.func140, c140_ok, by decide +kernel⟩
  · cases h; exact .inl ⟨_, Go.Proofs.Try.func141, c141_ok, by decide +kernel⟩
  · cases h; exact .inl ⟨_, Go.Proofs.Try.func142, c142_ok, by decide +kernel⟩
  · cases h; exact .inl ⟨_, Go.Proofs.Try.func143, c143_ok, by decide +kernel⟩
  · cases h; exact .inl ⟨_, Go.Proofs.Try.func144, c144_ok, by decide +kernel⟩
  · cases h; exact .inl ⟨_, Go.Proofs.Try.func145, c145_ok, by decide +kernel⟩
  · cases h; exact .inl ⟨_, Go.Proofs.Try.func146, c146_ok, by decide +kernel⟩
  · cases h; exact .inl ⟨_, Go.Proofs.Try.func147, c147_ok, by decide +kernel⟩
  · cases h; exact .inl ⟨_, Go.Proofs.Try.func148, c148_ok, by decide +kernel⟩
  · cases h; exact .inl ⟨_, Go.Proofs.Try.func149, c149_ok, by decide +kernel⟩
  · cases h; exact .inl ⟨_, Go.Proofs.Try.func150, c150_ok, by decide +kernel⟩
  · cases h; exact .inl ⟨_, Go.Proofs.Try.func151, c151_ok, by decide +kernel⟩
  · cases h; exact .inl ⟨_, Go.Proofs.Try.func152, c152_ok, by decide +kernel⟩
  · cases h; exact .inl ⟨_, Go.Proofs.Try.func153, c153_ok, by decide +kernel⟩
  · cases h; exact .inl ⟨_, Go.Proofs.Try.func154, c154_ok, by decide +kernel⟩
  · cases h; exact .inl ⟨_, Go.Proofs.Try.func155, c155_ok, by decide +kernel⟩
  · cases h; exact .inl ⟨_, Go.Proofs.Try.func156, c156_ok, by decide +kernel⟩
  · cases h; exact .inl ⟨_, Go.Proofs.Try.func157, c157_ok, by decide +kernel⟩
  · cases h; exact .inl ⟨_, Go.Proofs.Try.func158, c158_ok, by decide +kernel⟩
  · cases h; exact .inl ⟨_, Go.Proofs.Try.func159, c159_ok, by decide +kernel⟩
  · cases h; exact .inl ⟨_, Go.Proofs.Try.func160, c160_ok, by decide +kernel⟩
  · cases h; exact .inl ⟨_, Go.Proofs.Try.func161, c161_ok, by decide +kernel⟩
  · cases h; exact .inl ⟨_, Go.Proofs.Try.func162, c162_ok, by decide +kernel⟩
  · cases h; exact .inl ⟨_, Go.Proofs.Try.func163, c163_ok, by decide +kernel⟩
  · cases h; exact .inl ⟨_, Go.Proofs.Try.func164, c164_ok, by decide +kernel⟩
  · cases h; exact .inl ⟨_, Go.Proofs.Try.func165, c165_ok, by decide +kernel⟩
  · cases h; exact .inl ⟨_, Go.Proofs.Try.func166, c166_ok, by decide +kernel⟩
  · cases h
theorem ev : saysQ cprog 1000000 23 = true := by kernel_rfl
theorem mixed : Go.Proofs.Try.prog.follows .mixedOrders = true := by kernel_rfl
theorem known (w : World) : Calls Go.Proofs.Try.prog 23 #[] w fun e w' => e = .returned (.bool true) ∧ Go.RowKit.Below w.heap.size w w' := saysQ_true mixed cprog_ok ev w
end Go.Ev.K37
end
