/- The functions that the example of chapter 34 reaches. -/
import Derived.Test.YtehpiiimckodmaaProg
import Derived.KernelRfl
import Derived.Test.YtehpiiimckodmaaEv4
import Derived.Test.YtehpiiimckodmaaKCR
set_option linter.unusedVariables false
set_option linter.unusedSimpArgs false
section
namespace Go.Ev.K34
open Go
def op (d : Nat) (o : COp) : CE := ⟨some d, o, none⟩
def mv (d s : Nat) : CE := ⟨some d, .move (.t s), none⟩
def gt (d : Nat) (o : COp) (g : Nat) : CE := ⟨some d, o, some (g, true)⟩
def gf (d : Nat) (o : COp) (g : Nat) : CE := ⟨some d, o, some (g, false)⟩
def ci (n : Nat) : Opd := .c (.int .i64 (.ofNat n))
/-- semigroup/combine.Validate -/
def c16 : CFunc := Go.EvK.c_combine_Validate
theorem c16_ok : cFunc Go.Proofs.Try.prog Go.Proofs.Try.f16 = some c16 := by kernel_rfl
/-- semigroup/combine.Holds -/
def c18 : CFunc := Go.EvK.c_combine_Holds
theorem c18_ok : cFunc Go.Proofs.Try.prog Go.Proofs.Try.f18 = some c18 := by kernel_rfl
/-- semigroup/semigrouplaw34.known -/
def c20 : CFunc := ⟨83, [.tmp 0], (.seq (.reg [op 0 (.move (.c (.bool false)))])
 (.seq (.reg [op 14 (.buildSlice 4 1 3 [(.bool false), (.bool false), (.bool false)] [(0, (.c (.bool false))), (1, (.c (.bool false))), (2, (.c (.bool true)))]), op 15 (.buildSlice 3 1 2 [(.int .i64 (.ofNat 0)), (.int .i64 (.ofNat 0))] [(0, (ci 1)), (1, (ci 0))]), op 16 (.buildSlice 3 1 2 [(.int .i64 (.ofNat 0)), (.int .i64 (.ofNat 0))] [(0, (ci 1)), (1, (ci 2))]), op 17 (.buildSlice 3 1 2 [(.int .i64 (.ofNat 0)), (.int .i64 (.ofNat 0))] [(0, (ci 1)), (1, (ci 2))]), op 18 (.buildSlice 22 1 3 [(.slice none 0 0), (.slice none 0 0), (.slice none 0 0)] [(0, (.t 15)), (1, (.t 16)), (2, (.t 17))]), op 19 (.build [(.int .i64 (.ofNat 0)), (.int .i64 (.ofNat 0)), (.slice none 0 0), (.slice none 0 0)] [(0, 1, (ci 2)), (2, 1, (.t 14)), (3, 1, (.t 18))]), op 1 (.alloc 32 [(.int .i64 (.ofNat 0)), (.int .i64 (.ofNat 0)), (.slice none 0 0), (.slice none 0 0)]), ⟨none, .store 4 (.t 1) (.t 19), none⟩])
 (.seq (.reg [op 21 (.call 57 [(ci 5), (ci 2), (ci 1), (ci 0)]), mv 20 21, op 22 (.extract 0 (.t 20)), op 23 (.extract 1 (.t 20)), mv 2 22, mv 3 23])
 (.seq (.reg [op 25 (.loadN 4 (.t 1)), mv 26 2, op 27 (.call 58 [(.t 25), (.t 26)]), mv 24 27, op 28 (.extract 0 (.t 24)), op 29 (.extract 1 (.t 24)), op 30 (.extract 2 (.t 24)), op 31 (.extract 3 (.t 24)), op 4 (.alloc 45 [(.slice none 0 0), (.slice none 0 0), (.int .i64 (.ofNat 0))]), ⟨none, .store 3 (.t 4) (.t 28), none⟩, mv 5 29, mv 6 30, mv 7 31])
 (.seq (.reg [op 33 (.call 57 [(ci 6), (ci 2), (ci 1), (ci 0)]), mv 32 33, op 34 (.extract 0 (.t 32)), op 35 (.extract 1 (.t 32)), mv 8 34, mv 9 35])
 (.seq (.reg [op 37 (.loadN 4 (.t 1)), mv 38 8, op 39 (.call 58 [(.t 37), (.t 38)]), mv 36 39, op 40 (.extract 0 (.t 36)), op 41 (.extract 1 (.t 36)), op 42 (.extract 2 (.t 36)), op 43 (.extract 3 (.t 36)), op 10 (.alloc 45 [(.slice none 0 0), (.slice none 0 0), (.int .i64 (.ofNat 0))]), ⟨none, .store 3 (.t 10) (.t 40), none⟩, mv 11 41, mv 12 42, mv 13 43])
 (.seq (.reg [mv 44 7, op 45 (.bin .eql (.t 44) (ci 0)), mv 46 45, gt 47 (.loadN 3 (.t 4)) 46, gt 48 (.call 18 [(.t 47), (.c (.string ⟨⟨[97, 98]⟩⟩))]) 46, op 49 (.pick (.t 46) (.t 48) (.c (.bool false))), mv 50 49, gt 51 (.loadN 3 (.t 4)) 50, gt 52 (.call 18 [(.t 51), (.c (.string ⟨⟨[98, 97]⟩⟩))]) 50, gt 53 (.not (.t 52)) 50, op 54 (.pick (.t 50) (.t 53) (.c (.bool false))), mv 55 54, gt 56 (.loadN 3 (.t 4)) 55, gt 57 (.call 18 [(.t 56), (.c (.string ⟨⟨[98, 98]⟩⟩))]) 55, gt 58 (.not (.t 57)) 55, op 59 (.pick (.t 55) (.t 58) (.c (.bool false))), mv 60 59, gt 61 (.move (.t 13)) 60, gt 62 (.bin .eql (.t 61) (ci 20)) 60, op 63 (.pick (.t 60) (.t 62) (.c (.bool false))), mv 64 63, gt 65 (.move (.t 11)) 64, gt 66 (.call 59 [(.t 65)]) 64, op 67 (.pick (.t 64) (.t 66) (.c (.bool false))), mv 68 67, gt 69 (.move (.t 12)) 68, gt 70 (.call 59 [(.t 69)]) 68, gt 71 (.not (.t 70)) 68, op 72 (.pick (.t 68) (.t 71) (.c (.bool false))), mv 73 72, gt 74 (.move (.t 11)) 73, gt 75 (.lenStr (.t 74)) 73, gt 76 (.bin .leq (.t 75) (ci 4000)) 73, op 77 (.pick (.t 73) (.t 76) (.c (.bool false))), mv 78 77, gt 79 (.move (.t 12)) 78, gt 80 (.lenStr (.t 79)) 78, gt 81 (.bin .leq (.t 80) (ci 4000)) 78, op 82 (.pick (.t 78) (.t 81) (.c (.bool false))), mv 0 82])
 .ret)))))))⟩
theorem c20_ok : cFunc Go.Proofs.Try.prog Go.Proofs.Try.f20 = some c20 := by kernel_rfl
/-- semigroup/machine.Explore -/
def c31 : CFunc := ⟨90, [.cells 4 8, .tmp 9], (.seq (.reg [op 8 (.alloc 66 [(.int .i64 (.ofNat 0)), (.int .i64 (.ofNat 0)), (.slice none 0 0), (.slice none 0 0)]), op 9 (.move (.c (.bool false)))])
 (.seq (.reg [mv 19 0, op 20 (.build [(.int .i64 (.ofNat 0)), (.int .i64 (.ofNat 0)), (.slice none 0 0), (.slice none 0 0)] [(0, 1, (.t 19))]), op 10 (.alloc 66 [(.int .i64 (.ofNat 0)), (.int .i64 (.ofNat 0)), (.slice none 0 0), (.slice none 0 0)]), ⟨none, .store 4 (.t 10) (.t 20), none⟩])
 (.seq (.reg [op 21 (.mkMap), mv 22 1, ⟨none, .mapSet (.one .str) (.t 21) (.t 22) (ci 0), none⟩, mv 23 21, mv 11 23])
 (.seq (.reg [mv 24 1, op 25 (.buildSlice 9 1 1 [(.string ⟨⟨[]⟩⟩)] [(0, (.t 24))]), mv 12 25])
 (.seq (.seq (.reg [op 13 (.move (ci 0))])
 (.block 0 (.loop (.seq (.seq (.reg [mv 26 13, mv 27 12, op 28 (.lenSl (.t 27)), op 29 (.bin .lss (.t 26) (.t 28))])
 (.cond (.t 29) .skip (.exit 0)))
 (.seq (.block 1 (.seq (.draw [(op 32 (.faddr 2 (.t 10)), 1), (op 33 (.load (.t 32)), 1), (mv 34 3, 0), (mv 35 12, 0), (mv 36 13, 0), (op 37 (.iaddr 1 (.t 35) (.t 36)), 0), (op 38 (.load (.t 37)), 0), (op 39 (.callv (.t 34) [(.t 38)]), 1), (op 40 (.buildSlice 4 1 1 [(.bool false)] [(0, (.t 39))]), 1), (op 41 (.append 4 1 1 (.t 33) (.t 40)), 2), (op 42 (.faddr 2 (.t 10)), 2), (⟨none, .store 1 (.t 42) (.t 41), none⟩, 3)])
 (.seq (.reg [mv 43 0, op 44 (.mkSlice 3 8 1 [(.int .i64 (.ofNat 0))] (.t 43) (.t 43)), mv 14 44])
 (.seq (.seq (.reg [mv 45 14, op 46 (.lenSl (.t 45)), op 47 (.move (ci 0))])
 (.block 2 (.loop (.seq (.reg [op 48 (.bin .lss (.t 47) (.t 46))])
 (.seq (.cond (.t 48) .skip (.exit 2))
 (.seq (.block 3 (.seq (.reg [mv 49 47, mv 15 49])
 (.seq (.reg [mv 50 2, mv 51 12, mv 52 13, op 53 (.iaddr 1 (.t 51) (.t 52)), op 54 (.load (.t 53)), mv 55 15, op 56 (.callv (.t 50) [(.t 54), (.t 55)]), mv 16 56])
 (.seq (.reg [mv 58 11, mv 59 16, op 60 (.lookup (.one .str) (.int .i64 (.ofNat 0)) true (.t 58) (.t 59)), mv 57 60, op 61 (.extract 0 (.t 57)), op 62 (.extract 1 (.t 57)), mv 17 61, mv 18 62])
 (.seq (.seq (.reg [mv 63 18, op 64 (.not (.t 63))])
 (.cond (.t 64) (.seq (.seq (.reg [mv 65 12, op 66 (.lenSl (.t 65)), op 67 (.bin .eql (.t 66) (ci 262144))])
 (.cond (.t 67) (.seq (.reg [op 68 (.build [(.int .i64 (.ofNat 0)), (.int .i64 (.ofNat 0)), (.slice none 0 0), (.slice none 0 0)] []), ⟨none, .store 4 (.t 8) (.t 68), none⟩, op 9 (.move (.c (.bool false)))])
 .ret) .skip))
 (.seq (.reg [mv 69 12, op 70 (.lenSl (.t 69)), mv 17 70])
 (.seq (.reg [mv 71 11, mv 72 16, mv 73 17, ⟨none, .mapSet (.one .str) (.t 71) (.t 72) (.t 73), none⟩])
 (.reg [mv 74 12, mv 75 16, op 76 (.buildSlice 9 1 1 [(.string ⟨⟨[]⟩⟩)] [(0, (.t 75))]), op 77 (.append 9 1 16 (.t 74) (.t 76)), mv 12 77])))) .skip))
 (.reg [mv 78 14, mv 79 15, mv 80 17, op 81 (.iaddr 1 (.t 78) (.t 79)), ⟨none, .store 1 (.t 81) (.t 80), none⟩]))))))
 (.reg [op 82 (.bin .add (.t 47) (ci 1)), mv 47 82])))))))
 (.reg [op 83 (.faddr 3 (.t 10)), op 84 (.load (.t 83)), mv 85 14, op 86 (.buildSlice 22 1 1 [(.slice none 0 0)] [(0, (.t 85))]), op 87 (.append 22 1 24 (.t 84) (.t 86)), op 88 (.faddr 3 (.t 10)), ⟨none, .store 1 (.t 88) (.t 87), none⟩])))))
 (.reg [mv 30 13, op 31 (.bin .add (.t 30) (ci 1)), mv 13 31]))))))
 (.seq (.reg [op 89 (.loadN 4 (.t 10)), ⟨none, .store 4 (.t 8) (.t 89), none⟩, op 9 (.move (.c (.bool true)))])
 .ret))))))⟩
theorem c31_ok : cFunc Go.Proofs.Try.prog Go.Proofs.Try.f31 = some c31 := by kernel_rfl
/-- semigroup/machine.Minimal -/
def c38 : CFunc := ⟨196, [.cells 4 2], (.seq (.reg [op 1 (.box 66 (.t 0)), op 2 (.alloc 66 [(.int .i64 (.ofNat 0)), (.int .i64 (.ofNat 0)), (.slice none 0 0), (.slice none 0 0)])])
 (.seq (.reg [op 21 (.loadN 4 (.t 1)), op 22 (.call 70 [(.t 21)]), ⟨none, .store 4 (.t 1) (.t 22), none⟩])
 (.seq (.reg [op 23 (.faddr 3 (.t 1)), op 24 (.load (.t 23)), op 25 (.lenSl (.t 24)), op 26 (.mkSlice 3 8 1 [(.int .i64 (.ofNat 0))] (.t 25) (.t 25)), mv 3 26])
 (.seq (.seq (.reg [op 27 (.faddr 2 (.t 1)), op 28 (.load (.t 27)), op 29 (.lenSl (.t 28)), op 30 (.move (ci 0))])
 (.block 0 (.loop (.seq (.reg [op 31 (.bin .lss (.t 30) (.t 29))])
 (.seq (.cond (.t 31) .skip (.exit 0))
 (.seq (.block 1 (.seq (.reg [mv 32 30, op 33 (.iaddr 1 (.t 28) (.t 30)), op 34 (.load (.t 33)), mv 4 32, mv 5 34])
 (.seq (.reg [mv 35 5, op 36 (.faddr 2 (.t 1)), op 37 (.load (.t 36)), op 38 (.iaddr 1 (.t 37) (ci 0)), op 39 (.load (.t 38)), op 40 (.eqB true (.t 35) (.t 39))])
 (.cond (.t 40) (.reg [mv 41 3, mv 42 4, op 43 (.iaddr 1 (.t 41) (.t 42)), ⟨none, .store 1 (.t 43) (ci 1), none⟩]) .skip))))
 (.reg [op 44 (.bin .add (.t 30) (ci 1)), mv 30 44])))))))
 (.seq (.seq (.reg [op 6 (.move (ci 0))])
 (.block 2 (.loop (.block 3 (.seq (.reg [op 45 (.mkMap), mv 7 45])
 (.seq (.reg [mv 46 3, op 47 (.lenSl (.t 46)), op 48 (.mkSlice 3 8 1 [(.int .i64 (.ofNat 0))] (.t 47) (.t 47)), mv 8 48])
 (.seq (.seq (.reg [mv 49 3, op 50 (.lenSl (.t 49)), op 51 (.move (ci 0))])
 (.block 4 (.loop (.seq (.reg [op 52 (.bin .lss (.t 51) (.t 50))])
 (.seq (.cond (.t 52) .skip (.exit 4))
 (.seq (.block 5 (.seq (.reg [mv 53 51, mv 9 53])
 (.seq (.reg [op 54 (.faddr 0 (.t 1)), op 55 (.load (.t 54)), op 56 (.bin .mul (ci 3) (.t 55)), op 57 (.bin .add (ci 3) (.t 56)), op 58 (.mkSlice 5 1 1 [(.int .u8 (.ofNat 0))] (ci 0) (.t 57)), mv 10 58])
 (.seq (.draw [(mv 59 10, 0), (mv 60 3, 0), (mv 61 9, 0), (op 62 (.iaddr 1 (.t 60) (.t 61)), 0), (op 63 (.load (.t 62)), 0), (op 64 (.conv .u8 (.t 63)), 0), (mv 65 3, 0), (mv 66 9, 0), (op 67 (.iaddr 1 (.t 65) (.t 66)), 0), (op 68 (.load (.t 67)), 0), (op 69 (.bin .shr (.t 68) (.c (.int .u64 (.ofNat 8)))), 0), (op 70 (.conv .u8 (.t 69)), 0), (mv 71 3, 0), (mv 72 9, 0), (op 73 (.iaddr 1 (.t 71) (.t 72)), 0), (op 74 (.load (.t 73)), 0), (op 75 (.bin .shr (.t 74) (.c (.int .u64 (.ofNat 16)))), 0), (op 76 (.conv .u8 (.t 75)), 0), (op 77 (.buildSlice 5 1 3 [(.int .u8 (.ofNat 0)), (.int .u8 (.ofNat 0)), (.int .u8 (.ofNat 0))] [(0, (.t 64)), (1, (.t 70)), (2, (.t 76))]), 0), (op 78 (.append 5 1 1 (.t 59) (.t 77)), 1), (mv 10 78, 1)])
 (.seq (.seq (.reg [op 79 (.faddr 3 (.t 1)), op 80 (.load (.t 79)), mv 81 9, op 82 (.iaddr 1 (.t 80) (.t 81)), op 83 (.load (.t 82)), op 84 (.lenSl (.t 83)), op 85 (.move (ci 0))])
 (.block 6 (.loop (.seq (.reg [op 86 (.bin .lss (.t 85) (.t 84))])
 (.seq (.cond (.t 86) .skip (.exit 6))
 (.seq (.block 7 (.seq (.reg [op 87 (.iaddr 1 (.t 83) (.t 85)), op 88 (.load (.t 87)), mv 12 88])
 (.draw [(mv 89 10, 0), (mv 90 3, 0), (mv 91 12, 0), (op 92 (.iaddr 1 (.t 90) (.t 91)), 0), (op 93 (.load (.t 92)), 0), (op 94 (.conv .u8 (.t 93)), 0), (mv 95 3, 0), (mv 96 12, 0), (op 97 (.iaddr 1 (.t 95) (.t 96)), 0), (op 98 (.load (.t 97)), 0), (op 99 (.bin .shr (.t 98) (.c (.int .u64 (.ofNat 8)))), 0), (op 100 (.conv .u8 (.t 99)), 0), (mv 101 3, 0), (mv 102 12, 0), (op 103 (.iaddr 1 (.t 101) (.t 102)), 0), (op 104 (.load (.t 103)), 0), (op 105 (.bin .shr (.t 104) (.c (.int .u64 (.ofNat 16)))), 0), (op 106 (.conv .u8 (.t 105)), 0), (op 107 (.buildSlice 5 1 3 [(.int .u8 (.ofNat 0)), (.int .u8 (.ofNat 0)), (.int .u8 (.ofNat 0))] [(0, (.t 94)), (1, (.t 100)), (2, (.t 106))]), 0), (op 108 (.append 5 1 1 (.t 89) (.t 107)), 1), (mv 10 108, 1)])))
 (.reg [op 109 (.bin .add (.t 85) (ci 1)), mv 85 109])))))))
 (.seq (.reg [mv 111 7, mv 112 10, op 113 (.strOf (.t 112)), op 114 (.lookup (.one .str) (.int .i64 (.ofNat 0)) true (.t 111) (.t 113)), mv 110 114, op 115 (.extract 0 (.t 110)), op 116 (.extract 1 (.t 110)), mv 13 115, mv 14 116])
 (.seq (.seq (.reg [mv 117 14, op 118 (.not (.t 117))])
 (.cond (.t 118) (.seq (.reg [mv 119 7, op 120 (.lenMap (.t 119)), mv 13 120])
 (.reg [mv 121 7, mv 122 10, op 123 (.strOf (.t 122)), mv 124 13, ⟨none, .mapSet (.one .str) (.t 121) (.t 123) (.t 124), none⟩])) .skip))
 (.reg [mv 125 8, mv 126 9, mv 127 13, op 128 (.iaddr 1 (.t 125) (.t 126)), ⟨none, .store 1 (.t 128) (.t 127), none⟩]))))))))
 (.reg [op 129 (.bin .add (.t 51) (ci 1)), mv 51 129])))))))
 (.seq (.reg [mv 130 8, mv 3 130])
 (.seq (.seq (.reg [mv 131 7, op 132 (.lenMap (.t 131)), mv 133 6, op 134 (.bin .eql (.t 132) (.t 133))])
 (.cond (.t 134) (.exit 2) .skip))
 (.reg [mv 135 7, op 136 (.lenMap (.t 135)), mv 6 136]))))))))))
 (.seq (.draw [(op 137 (.faddr 0 (.t 1)), 0), (op 138 (.load (.t 137)), 0), (mv 139 3, 0), (op 140 (.iaddr 1 (.t 139) (ci 0)), 0), (op 141 (.load (.t 140)), 0), (op 142 (.build [(.int .i64 (.ofNat 0)), (.int .i64 (.ofNat 0)), (.slice none 0 0), (.slice none 0 0)] [(0, 1, (.t 138)), (1, 1, (.t 141))]), 0), (op 15 (.alloc 66 [(.int .i64 (.ofNat 0)), (.int .i64 (.ofNat 0)), (.slice none 0 0), (.slice none 0 0)]), 0), (⟨none, .store 4 (.t 15) (.t 142), none⟩, 1)])
 (.seq (.seq (.reg [mv 143 3, op 144 (.lenSl (.t 143)), op 145 (.move (ci 0))])
 (.block 8 (.loop (.seq (.reg [op 146 (.bin .lss (.t 145) (.t 144))])
 (.seq (.cond (.t 146) .skip (.exit 8))
 (.seq (.block 9 (.seq (.reg [mv 147 145, op 148 (.iaddr 1 (.t 143) (.t 145)), op 149 (.load (.t 148)), mv 16 147, mv 17 149])
 (.seq (.seq (.reg [mv 150 17, op 151 (.faddr 3 (.t 15)), op 152 (.load (.t 151)), op 153 (.lenSl (.t 152)), op 154 (.bin .lss (.t 150) (.t 153))])
 (.cond (.t 154) (.exit 9) .skip))
 (.seq (.reg [op 155 (.faddr 0 (.t 1)), op 156 (.load (.t 155)), op 157 (.mkSlice 3 8 1 [(.int .i64 (.ofNat 0))] (.t 156) (.t 156)), mv 18 157])
 (.seq (.seq (.reg [op 158 (.faddr 3 (.t 1)), op 159 (.load (.t 158)), mv 160 16, op 161 (.iaddr 1 (.t 159) (.t 160)), op 162 (.load (.t 161)), op 163 (.lenSl (.t 162)), op 164 (.move (ci 0))])
 (.block 10 (.loop (.seq (.reg [op 165 (.bin .lss (.t 164) (.t 163))])
 (.seq (.cond (.t 165) .skip (.exit 10))
 (.seq (.block 11 (.seq (.reg [mv 166 164, op 167 (.iaddr 1 (.t 162) (.t 164)), op 168 (.load (.t 167)), mv 19 166, mv 20 168])
 (.reg [mv 169 18, mv 170 19, mv 171 3, mv 172 20, op 173 (.iaddr 1 (.t 171) (.t 172)), op 174 (.load (.t 173)), op 175 (.iaddr 1 (.t 169) (.t 170)), ⟨none, .store 1 (.t 175) (.t 174), none⟩])))
 (.reg [op 176 (.bin .add (.t 164) (ci 1)), mv 164 176])))))))
 (.seq (.reg [op 177 (.faddr 3 (.t 15)), op 178 (.load (.t 177)), mv 179 18, op 180 (.buildSlice 22 1 1 [(.slice none 0 0)] [(0, (.t 179))]), op 181 (.append 22 1 24 (.t 178) (.t 180)), op 182 (.faddr 3 (.t 15)), ⟨none, .store 1 (.t 182) (.t 181), none⟩])
 (.draw [(op 183 (.faddr 2 (.t 15)), 0), (op 184 (.load (.t 183)), 0), (op 185 (.faddr 2 (.t 1)), 0), (op 186 (.load (.t 185)), 0), (mv 187 16, 0), (op 188 (.iaddr 1 (.t 186) (.t 187)), 0), (op 189 (.load (.t 188)), 0), (op 190 (.buildSlice 4 1 1 [(.bool false)] [(0, (.t 189))]), 0), (op 191 (.append 4 1 1 (.t 184) (.t 190)), 1), (op 192 (.faddr 2 (.t 15)), 1), (⟨none, .store 1 (.t 192) (.t 191), none⟩, 2)])))))))
 (.reg [op 193 (.bin .add (.t 145) (ci 1)), mv 145 193])))))))
 (.seq (.reg [op 194 (.loadN 4 (.t 15)), op 195 (.call 70 [(.t 194)]), ⟨none, .store 4 (.t 2) (.t 195), none⟩])
 .ret))))))))⟩
theorem c38_ok : cFunc Go.Proofs.Try.prog Go.Proofs.Try.f38 = some c38 := by kernel_rfl
/-- semigroup/machine.DFA -/
def c42 : CFunc := ⟨45, [.cells 4 2, .tmp 3], (.seq (.reg [op 1 (.box 66 (.t 0)), op 2 (.alloc 32 [(.int .i64 (.ofNat 0)), (.int .i64 (.ofNat 0)), (.slice none 0 0), (.slice none 0 0)]), op 3 (.move (ci 0))])
 (.seq (.reg [op 8 (.loadN 4 (.t 1)), op 9 (.call 38 [(.t 8)]), ⟨none, .store 4 (.t 1) (.t 9), none⟩])
 (.seq (.draw [(op 10 (.faddr 0 (.t 1)), 1), (op 11 (.load (.t 10)), 1), (op 12 (.faddr 1 (.t 1)), 1), (op 13 (.load (.t 12)), 1), (op 14 (.faddr 2 (.t 1)), 0), (op 15 (.load (.t 14)), 0), (op 4 (.alloc 32 [(.int .i64 (.ofNat 0)), (.int .i64 (.ofNat 0)), (.slice none 0 0), (.slice none 0 0)]), 1), (op 16 (.append 4 1 1 (.c (.slice none 0 0)) (.t 15)), 1), (op 17 (.build [(.int .i64 (.ofNat 0)), (.int .i64 (.ofNat 0)), (.slice none 0 0), (.slice none 0 0)] [(0, 1, (.t 11)), (1, 1, (.t 13)), (2, 1, (.t 16))]), 1), (⟨none, .store 4 (.t 4) (.t 17), none⟩, 2)])
 (.seq (.seq (.reg [op 18 (.faddr 3 (.t 1)), op 19 (.load (.t 18)), op 20 (.lenSl (.t 19)), op 21 (.bin .gtr (.t 20) (ci 512))])
 (.cond (.t 21) (.seq (.reg [op 22 (.build [(.int .i64 (.ofNat 0)), (.int .i64 (.ofNat 0)), (.slice none 0 0), (.slice none 0 0)] []), ⟨none, .store 4 (.t 2) (.t 22), none⟩, op 3 (.move (ci 3))])
 .ret) .skip))
 (.seq (.seq (.reg [op 23 (.faddr 3 (.t 1)), op 24 (.load (.t 23)), op 25 (.lenSl (.t 24)), op 26 (.move (ci 0))])
 (.block 0 (.loop (.seq (.reg [op 27 (.bin .lss (.t 26) (.t 25))])
 (.seq (.cond (.t 27) .skip (.exit 0))
 (.seq (.block 1 (.seq (.reg [op 28 (.iaddr 1 (.t 24) (.t 26)), op 29 (.load (.t 28)), mv 6 29])
 (.draw [(op 30 (.faddr 3 (.t 4)), 1), (op 31 (.load (.t 30)), 1), (mv 32 6, 0), (op 33 (.append 3 1 8 (.c (.slice none 0 0)) (.t 32)), 1), (op 34 (.buildSlice 22 1 1 [(.slice none 0 0)] [(0, (.t 33))]), 1), (op 35 (.append 22 1 24 (.t 31) (.t 34)), 2), (op 36 (.faddr 3 (.t 4)), 2), (⟨none, .store 1 (.t 36) (.t 35), none⟩, 3)])))
 (.reg [op 37 (.bin .add (.t 26) (ci 1)), mv 26 37])))))))
 (.seq (.seq (.reg [op 38 (.loadN 4 (.t 4)), op 39 (.call 75 [(.t 38)]), mv 7 39])
 (.seq (.reg [mv 40 7, op 41 (.bin .neq (.t 40) (ci 0))])
 (.cond (.t 41) (.seq (.reg [op 42 (.build [(.int .i64 (.ofNat 0)), (.int .i64 (.ofNat 0)), (.slice none 0 0), (.slice none 0 0)] []), mv 43 7, ⟨none, .store 4 (.t 2) (.t 42), none⟩, mv 3 43])
 .ret) .skip)))
 (.seq (.reg [op 44 (.loadN 4 (.t 4)), ⟨none, .store 4 (.t 2) (.t 44), none⟩, op 3 (.move (ci 0))])
 .ret)))))))⟩
theorem c42_ok : cFunc Go.Proofs.Try.prog Go.Proofs.Try.f42 = some c42 := by kernel_rfl
/-- semigroup/word.Valid -/
def c44 : CFunc := Go.EvK.c_word_Valid
theorem c44_ok : cFunc Go.Proofs.Try.prog Go.Proofs.Try.f44 = some c44 := by kernel_rfl
/-- semigroup/pattern.Validate -/
def c48 : CFunc := Go.EvK.c_pattern_Validate
theorem c48_ok : cFunc Go.Proofs.Try.prog Go.Proofs.Try.f48 = some c48 := by kernel_rfl
/-- semigroup/semigroupref01.MayLetters -/
def c49 : CFunc := Go.EvK.c_ref01_MayLetters
theorem c49_ok : cFunc Go.Proofs.Try.prog Go.Proofs.Try.f49 = some c49 := by kernel_rfl
/-- semigroup/combine.decide -/
def c51 : CFunc := Go.EvK.c_combine_decide
theorem c51_ok : cFunc Go.Proofs.Try.prog Go.Proofs.Try.f51 = some c51 := by kernel_rfl
/-- semigroup/combine.Holds$1 -/
def c52 : CFunc := Go.EvK.c_combine_Holds_1
theorem c52_ok : cFunc Go.Proofs.Try.prog Go.Proofs.Try.f52 = some c52 := by kernel_rfl
/-- semigroup/pattern.Match -/
def c53 : CFunc := Go.EvK.c_pattern_Match
theorem c53_ok : cFunc Go.Proofs.Try.prog Go.Proofs.Try.f53 = some c53 := by kernel_rfl
/-- semigroup/semigroupref33.Family -/
def c57 : CFunc := ⟨232, [.tmp 8, .tmp 9], (.seq (.reg [op 8 (.move (.c (.slice none 0 0))), op 9 (.move (ci 0))])
 (.seq (.reg [op 10 (.move (ci 1))])
 (.seq (.seq (.reg [mv 22 0, op 23 (.bin .eql (.t 22) (ci 1))])
 (.cond (.t 23) (.reg [op 10 (.move (ci 0))]) .skip))
 (.seq (.seq (.reg [mv 24 0, op 25 (.bin .lss (.t 24) (ci 1)), mv 26 25, gf 27 (.move (.t 0)) 26, gf 28 (.bin .gtr (.t 27) (ci 7)) 26, op 29 (.pick (.t 26) (.c (.bool true)) (.t 28)), mv 30 29, gf 31 (.move (.t 1)) 30, gf 32 (.call 49 [(.t 31)]) 30, gf 33 (.not (.t 32)) 30, op 34 (.pick (.t 30) (.c (.bool true)) (.t 33)), mv 35 34, gf 36 (.move (.t 2)) 35, gf 37 (.move (.t 10)) 35, gf 38 (.bin .lss (.t 36) (.t 37)) 35, op 39 (.pick (.t 35) (.c (.bool true)) (.t 38)), mv 40 39, gf 41 (.move (.t 2)) 40, gf 42 (.bin .gtr (.t 41) (ci 8)) 40, op 43 (.pick (.t 40) (.c (.bool true)) (.t 42)), mv 44 43, gf 45 (.move (.t 0)) 44, gf 46 (.bin .eql (.t 45) (ci 7)) 44, gf 47 (.move (.t 46)) 44, gt 48 (.move (.t 3)) 47, gt 49 (.bin .lss (.t 48) (ci 0)) 47, gt 50 (.move (.t 49)) 47, gf 51 (.move (.t 3)) 50, gf 52 (.bin .gtr (.t 51) (ci 4)) 50, gt 53 (.pick (.t 50) (.c (.bool true)) (.t 52)) 47, gf 54 (.pick (.t 47) (.t 53) (.c (.bool false))) 44, op 55 (.pick (.t 44) (.c (.bool true)) (.t 54)), mv 56 55, gf 57 (.move (.t 0)) 56, gf 58 (.bin .neq (.t 57) (ci 7)) 56, gf 59 (.move (.t 58)) 56, gt 60 (.move (.t 3)) 59, gt 61 (.bin .neq (.t 60) (ci 0)) 59, gf 62 (.pick (.t 59) (.t 61) (.c (.bool false))) 56, op 63 (.pick (.t 56) (.c (.bool true)) (.t 62))])
 (.cond (.t 63) (.seq (.reg [op 8 (.move (.c (.slice none 0 0))), op 9 (.move (ci 1))])
 .ret) .skip))
 (.seq (.seq (.reg [mv 64 0, op 65 (.bin .eql (.t 64) (ci 6)), mv 66 65, gt 67 (.move (.t 2)) 66, gt 68 (.bin .add (.t 67) (ci 2)) 66, gt 69 (.bin .gtr (.t 68) (ci 8)) 66, op 70 (.pick (.t 66) (.t 69) (.c (.bool false)))])
 (.cond (.t 70) (.seq (.reg [op 8 (.move (.c (.slice none 0 0))), op 9 (.move (ci 3))])
 .ret) .skip))
 (.seq (.reg [op 11 (.move (ci 1))])
 (.seq (.seq (.reg [op 12 (.move (ci 0)), op 13 (.move (ci 1))])
 (.block 0 (.loop (.seq (.seq (.reg [mv 71 12, mv 72 2, op 73 (.bin .lss (.t 71) (.t 72))])
 (.cond (.t 73) .skip (.exit 0)))
 (.seq (.block 1 (.seq (.reg [mv 76 13, mv 77 1, op 78 (.bin .mul (.t 76) (.t 77)), mv 13 78])
 (.reg [mv 79 11, mv 80 13, op 81 (.bin .add (.t 79) (.t 80)), mv 11 81])))
 (.reg [mv 74 12, op 75 (.bin .add (.t 74) (ci 1)), mv 12 75]))))))
 (.seq (.seq (.reg [mv 82 11, op 83 (.bin .sub (.t 82) (ci 1)), op 84 (.bin .gtr (.t 83) (ci 300))])
 (.cond (.t 84) (.seq (.reg [op 8 (.move (.c (.slice none 0 0))), op 9 (.move (ci 3))])
 .ret) .skip))
 (.seq (.reg [mv 85 1, mv 86 2, op 87 (.call 85 [(.t 85), (.t 86)]), mv 14 87])
 (.seq (.reg [op 15 (.move (.c (.slice none 0 0)))])
 (.seq (.seq (.reg [mv 88 14, op 89 (.lenSl (.t 88)), op 90 (.move (ci 0))])
 (.block 2 (.loop (.seq (.reg [op 91 (.bin .lss (.t 90) (.t 89))])
 (.seq (.cond (.t 91) .skip (.exit 2))
 (.seq (.block 3 (.seq (.reg [op 92 (.iaddr 1 (.t 88) (.t 90)), op 93 (.load (.t 92)), mv 17 93])
 (.seq (.seq (.reg [mv 94 0, op 95 (.bin .eql (.t 94) (ci 1)), mv 96 95, gf 97 (.move (.t 0)) 96, gf 98 (.bin .eql (.t 97) (ci 7)) 96, op 99 (.pick (.t 96) (.c (.bool true)) (.t 98)), mv 100 99, gf 101 (.move (.t 0)) 100, gf 102 (.bin .neq (.t 101) (ci 6)) 100, gf 103 (.move (.t 102)) 100, gt 104 (.move (.t 17)) 103, gt 105 (.lenStr (.t 104)) 103, gt 106 (.move (.t 2)) 103, gt 107 (.bin .lss (.t 105) (.t 106)) 103, gf 108 (.pick (.t 103) (.t 107) (.c (.bool false))) 100, op 109 (.pick (.t 100) (.c (.bool true)) (.t 108))])
 (.cond (.t 109) (.reg [mv 110 15, mv 111 17, op 112 (.buildSlice 9 1 1 [(.string ⟨⟨[]⟩⟩)] [(0, (.t 111))]), op 113 (.build [(.slice none 0 0)] [(0, 1, (.t 112))]), op 114 (.buildSlice 48 1 1 [(.slice none 0 0)] [(0, (.t 113))]), op 115 (.append 48 1 24 (.t 110) (.t 114)), mv 15 115]) .skip))
 (.seq (.seq (.reg [mv 116 17, op 117 (.bin .eql (.t 116) (.c (.string ⟨⟨[]⟩⟩)))])
 (.cond (.t 117) (.exit 3) .skip))
 (.seq (.seq (.reg [mv 118 0, op 119 (.bin .eql (.t 118) (ci 2)), mv 120 119, gf 121 (.move (.t 0)) 120, gf 122 (.bin .eql (.t 121) (ci 4)) 120, op 123 (.pick (.t 120) (.c (.bool true)) (.t 122)), mv 124 123, gf 125 (.move (.t 0)) 124, gf 126 (.bin .eql (.t 125) (ci 5)) 124, op 127 (.pick (.t 124) (.c (.bool true)) (.t 126))])
 (.cond (.t 127) (.reg [mv 128 15, mv 129 17, op 130 (.buildSlice 9 1 2 [(.string ⟨⟨[]⟩⟩), (.string ⟨⟨[]⟩⟩)] [(0, (.t 129)), (1, (.c (.string ⟨⟨[]⟩⟩)))]), op 131 (.build [(.slice none 0 0)] [(0, 1, (.t 130))]), op 132 (.buildSlice 48 1 1 [(.slice none 0 0)] [(0, (.t 131))]), op 133 (.append 48 1 24 (.t 128) (.t 132)), mv 15 133]) .skip))
 (.seq (.seq (.reg [mv 134 0, op 135 (.bin .eql (.t 134) (ci 3)), mv 136 135, gf 137 (.move (.t 0)) 136, gf 138 (.bin .eql (.t 137) (ci 4)) 136, op 139 (.pick (.t 136) (.c (.bool true)) (.t 138)), mv 140 139, gf 141 (.move (.t 0)) 140, gf 142 (.bin .eql (.t 141) (ci 5)) 140, op 143 (.pick (.t 140) (.c (.bool true)) (.t 142))])
 (.cond (.t 143) (.reg [mv 144 15, mv 145 17, op 146 (.buildSlice 9 1 2 [(.string ⟨⟨[]⟩⟩), (.string ⟨⟨[]⟩⟩)] [(0, (.c (.string ⟨⟨[]⟩⟩))), (1, (.t 145))]), op 147 (.build [(.slice none 0 0)] [(0, 1, (.t 146))]), op 148 (.buildSlice 48 1 1 [(.slice none 0 0)] [(0, (.t 147))]), op 149 (.append 48 1 24 (.t 144) (.t 148)), mv 15 149]) .skip))
 (.seq (.seq (.reg [mv 150 0, op 151 (.bin .eql (.t 150) (ci 5))])
 (.cond (.t 151) (.reg [mv 152 15, mv 153 17, op 154 (.buildSlice 9 1 3 [(.string ⟨⟨[]⟩⟩), (.string ⟨⟨[]⟩⟩), (.string ⟨⟨[]⟩⟩)] [(0, (.c (.string ⟨⟨[]⟩⟩))), (1, (.t 153)), (2, (.c (.string ⟨⟨[]⟩⟩)))]), op 155 (.build [(.slice none 0 0)] [(0, 1, (.t 154))]), op 156 (.buildSlice 48 1 1 [(.slice none 0 0)] [(0, (.t 155))]), op 157 (.append 48 1 24 (.t 152) (.t 156)), mv 15 157]) .skip))
 (.seq (.reg [mv 158 0, op 159 (.bin .eql (.t 158) (ci 6))])
 (.cond (.t 159) (.seq (.reg [op 160 (.buildSlice 9 1 1 [(.string ⟨⟨[]⟩⟩)] [(0, (.c (.string ⟨⟨[]⟩⟩)))]), mv 18 160])
 (.seq (.seq (.reg [mv 161 17, op 162 (.range (.t 161))])
 (.block 4 (.loop (.seq (.reg [op 163 (.next (.t 162)), op 164 (.extract 0 (.t 163))])
 (.seq (.cond (.t 164) .skip (.exit 4))
 (.block 5 (.seq (.reg [op 165 (.extract 1 (.t 163)), mv 19 165])
 (.reg [mv 166 18, mv 167 17, mv 168 19, mv 169 19, op 170 (.bin .add (.t 169) (ci 1)), op 171 (.sub (.t 167) (some (.t 168)) (some (.t 170))), op 172 (.buildSlice 9 1 1 [(.string ⟨⟨[]⟩⟩)] [(0, (.t 171))]), op 173 (.append 9 1 16 (.t 166) (.t 172)), mv 18 173]))))))))
 (.reg [mv 174 15, mv 175 18, op 176 (.buildSlice 9 1 1 [(.string ⟨⟨[]⟩⟩)] [(0, (.c (.string ⟨⟨[]⟩⟩)))]), op 177 (.append 9 1 16 (.t 175) (.t 176)), op 178 (.build [(.slice none 0 0)] [(0, 1, (.t 177))]), op 179 (.buildSlice 48 1 1 [(.slice none 0 0)] [(0, (.t 178))]), op 180 (.append 48 1 24 (.t 174) (.t 179)), mv 15 180]))) .skip)))))))))
 (.reg [op 181 (.bin .add (.t 90) (ci 1)), mv 90 181])))))))
 (.seq (.seq (.reg [mv 182 0, op 183 (.bin .eql (.t 182) (ci 7))])
 (.cond (.t 183) (.reg [mv 184 15, mv 185 14, mv 186 3, op 187 (.call 86 [(.t 185), (.t 186)]), op 188 (.append 48 1 24 (.t 184) (.t 187)), mv 15 188]) .skip))
 (.seq (.seq (.reg [mv 189 15, op 190 (.lenSl (.t 189)), op 191 (.bin .gtr (.t 190) (ci 300))])
 (.cond (.t 191) (.seq (.reg [op 8 (.move (.c (.slice none 0 0))), op 9 (.move (ci 3))])
 .ret) .skip))
 (.seq (.seq (.reg [mv 192 15, op 193 (.lenSl (.t 192)), op 194 (.move (ci 0))])
 (.block 6 (.loop (.seq (.reg [op 195 (.bin .lss (.t 194) (.t 193))])
 (.seq (.cond (.t 195) .skip (.exit 6))
 (.seq (.block 7 (.seq (.reg [mv 196 194, mv 20 196])
 (.seq (.reg [mv 197 20, mv 21 197])
 (.block 8 (.loop (.seq (.seq (.draw [(mv 198 21, 0), (op 199 (.bin .gtr (.t 198) (ci 0)), 0), (mv 200 199, 0), (gt 201 (.move (.t 15)) 200, 0), (gt 202 (.move (.t 21)) 200, 0), (gt 203 (.iaddr 1 (.t 201) (.t 202)) 200, 0), (gt 204 (.loadN 1 (.t 203)) 200, 0), (gt 205 (.move (.t 15)) 200, 0), (gt 206 (.move (.t 21)) 200, 0), (gt 207 (.bin .sub (.t 206) (ci 1)) 200, 0), (gt 208 (.iaddr 1 (.t 205) (.t 207)) 200, 0), (gt 209 (.loadN 1 (.t 208)) 200, 0), (gt 210 (.call 87 [(.t 204), (.t 209)]) 200, 1), (op 211 (.pick (.t 200) (.t 210) (.c (.bool false))), 1)])
 (.cond (.t 211) .skip (.exit 8)))
 (.seq (.block 9 (.draw [(mv 214 15, 0), (mv 215 21, 0), (mv 216 15, 1), (mv 217 21, 1), (op 218 (.bin .sub (.t 217) (ci 1)), 1), (mv 219 15, 0), (mv 220 21, 0), (op 221 (.bin .sub (.t 220) (ci 1)), 0), (op 222 (.iaddr 1 (.t 219) (.t 221)), 0), (op 223 (.loadN 1 (.t 222)), 0), (mv 224 15, 0), (mv 225 21, 0), (op 226 (.iaddr 1 (.t 224) (.t 225)), 0), (op 227 (.loadN 1 (.t 226)), 0), (op 228 (.iaddr 1 (.t 214) (.t 215)), 0), (⟨none, .store 1 (.t 228) (.t 223), none⟩, 1), (op 229 (.iaddr 1 (.t 216) (.t 218)), 1), (⟨none, .store 1 (.t 229) (.t 227), none⟩, 2)]))
 (.reg [mv 212 21, op 213 (.bin .sub (.t 212) (ci 1)), mv 21 213]))))))))
 (.reg [op 230 (.bin .add (.t 194) (ci 1)), mv 194 230])))))))
 (.seq (.reg [mv 231 15, mv 8 231, op 9 (.move (ci 0))])
 .ret)))))))))))))))⟩
theorem c57_ok : cFunc Go.Proofs.Try.prog Go.Proofs.Try.f57 = some c57 := by kernel_rfl
/-- semigroup/combine.Of -/
def c58 : CFunc := ⟨69, [.cells 3 4, .tmp 5, .tmp 6, .tmp 7], (.seq (.reg [op 2 (.box 32 (.t 0)), op 4 (.alloc 45 [(.slice none 0 0), (.slice none 0 0), (.int .i64 (.ofNat 0))]), op 5 (.move (.c (.string ⟨⟨[]⟩⟩))), op 6 (.move (.c (.string ⟨⟨[]⟩⟩))), op 7 (.move (ci 0))])
 (.seq (.seq (.reg [op 19 (.loadN 4 (.t 2)), op 20 (.call 75 [(.t 19)]), mv 8 20])
 (.seq (.reg [mv 21 8, op 22 (.bin .neq (.t 21) (ci 0))])
 (.cond (.t 22) (.seq (.reg [op 23 (.build [(.slice none 0 0), (.slice none 0 0), (.int .i64 (.ofNat 0))] []), mv 24 8, ⟨none, .store 3 (.t 4) (.t 23), none⟩, op 5 (.move (.c (.string ⟨⟨[]⟩⟩))), op 6 (.move (.c (.string ⟨⟨[]⟩⟩))), mv 7 24])
 .ret) .skip)))
 (.seq (.seq (.reg [mv 25 1, op 26 (.lenSl (.t 25)), op 27 (.bin .gtr (.t 26) (ci 300))])
 (.cond (.t 27) (.seq (.reg [op 28 (.build [(.slice none 0 0), (.slice none 0 0), (.int .i64 (.ofNat 0))] []), ⟨none, .store 3 (.t 4) (.t 28), none⟩, op 5 (.move (.c (.string ⟨⟨[]⟩⟩))), op 6 (.move (.c (.string ⟨⟨[]⟩⟩))), op 7 (.move (ci 3))])
 .ret) .skip))
 (.seq (.seq (.reg [mv 29 1, op 30 (.lenSl (.t 29)), op 31 (.move (ci 0))])
 (.block 0 (.loop (.seq (.reg [op 32 (.bin .lss (.t 31) (.t 30))])
 (.seq (.cond (.t 32) .skip (.exit 0))
 (.seq (.block 1 (.seq (.reg [op 33 (.iaddr 1 (.t 29) (.t 31)), op 34 (.loadN 1 (.t 33)), op 10 (.alloc 48 [(.slice none 0 0)]), ⟨none, .store 1 (.t 10) (.t 34), none⟩])
 (.seq (.reg [op 35 (.loadN 1 (.t 10)), op 36 (.faddr 0 (.t 2)), op 37 (.load (.t 36)), op 38 (.call 48 [(.t 35), (.t 37)]), mv 11 38])
 (.seq (.reg [mv 39 11, op 40 (.bin .neq (.t 39) (ci 0))])
 (.cond (.t 40) (.seq (.reg [op 41 (.build [(.slice none 0 0), (.slice none 0 0), (.int .i64 (.ofNat 0))] []), mv 42 11, ⟨none, .store 3 (.t 4) (.t 41), none⟩, op 5 (.move (.c (.string ⟨⟨[]⟩⟩))), op 6 (.move (.c (.string ⟨⟨[]⟩⟩))), mv 7 42])
 .ret) .skip)))))
 (.reg [op 43 (.bin .add (.t 31) (ci 1)), mv 31 43])))))))
 (.seq (.reg [op 12 (.move (.c (.func (.func 88) ⟨[]⟩ ⟨[]⟩)))])
 (.seq (.reg [op 13 (.move (.c (.func (.func 89) ⟨[]⟩ ⟨[]⟩)))])
 (.seq (.draw [(mv 45 1, 1), (op 46 (.loadN 4 (.t 2)), 0), (op 49 (.faddr 0 (.t 2)), 1), (op 50 (.load (.t 49)), 1), (mv 51 12, 1), (mv 52 13, 1), (op 14 (.alloc 45 [(.slice none 0 0), (.slice none 0 0), (.int .i64 (.ofNat 0))]), 2), (op 47 (.call 78 [(.t 46)]), 1), (op 48 (.buildSlice 32 4 1 [(.int .i64 (.ofNat 0)), (.int .i64 (.ofNat 0)), (.slice none 0 0), (.slice none 0 0)] [(0, (.t 47))]), 1), (op 53 (.call 90 [(.t 45), (.t 48), (.t 50), (.t 51), (.t 52)]), 2), (mv 44 53, 2), (op 54 (.extract 0 (.t 44)), 2), (op 55 (.extract 1 (.t 44)), 3), (op 56 (.extract 2 (.t 44)), 3), (op 57 (.extract 3 (.t 44)), 3), (op 58 (.extract 4 (.t 44)), 3), (⟨none, .store 3 (.t 14) (.t 54), none⟩, 3), (mv 15 55, 3), (mv 16 56, 3), (mv 17 57, 3), (mv 18 58, 3)])
 (.seq (.seq (.reg [mv 59 18, op 60 (.bin .neq (.t 59) (ci 0))])
 (.cond (.t 60) (.seq (.reg [op 61 (.build [(.slice none 0 0), (.slice none 0 0), (.int .i64 (.ofNat 0))] []), mv 62 18, ⟨none, .store 3 (.t 4) (.t 61), none⟩, op 5 (.move (.c (.string ⟨⟨[]⟩⟩))), op 6 (.move (.c (.string ⟨⟨[]⟩⟩))), mv 7 62])
 .ret) .skip))
 (.seq (.seq (.reg [mv 63 17, op 64 (.not (.t 63))])
 (.cond (.t 64) (.seq (.reg [op 65 (.build [(.slice none 0 0), (.slice none 0 0), (.int .i64 (.ofNat 0))] []), mv 66 15, mv 67 16, ⟨none, .store 3 (.t 4) (.t 65), none⟩, mv 5 66, mv 6 67, op 7 (.move (ci 20))])
 .ret) .skip))
 (.seq (.reg [op 68 (.loadN 3 (.t 14)), ⟨none, .store 3 (.t 4) (.t 68), none⟩, op 5 (.move (.c (.string ⟨⟨[]⟩⟩))), op 6 (.move (.c (.string ⟨⟨[]⟩⟩))), op 7 (.move (ci 0))])
 .ret))))))))))⟩
theorem c58_ok : cFunc Go.Proofs.Try.prog Go.Proofs.Try.f58 = some c58 := by kernel_rfl
/-- semigroup/semigrouplaw34.ends -/
def c59 : CFunc := ⟨37, [.tmp 2], (.seq (.reg [op 2 (.move (.c (.bool false)))])
 (.seq (.reg [op 3 (.move (.c (.bool false)))])
 (.seq (.seq (.reg [op 4 (.move (ci 0))])
 (.block 0 (.loop (.seq (.seq (.reg [mv 5 4, mv 6 0, op 7 (.lenStr (.t 6)), op 8 (.bin .lss (.t 5) (.t 7))])
 (.cond (.t 8) .skip (.exit 0)))
 (.seq (.block 1 (.seq (.seq (.reg [mv 11 0, mv 12 4, op 13 (.idxStr (.t 11) (.t 12)), op 14 (.bin .neq (.t 13) (.c (.int .u8 (.ofNat 97)))), mv 15 14, gt 16 (.move (.t 0)) 15, gt 17 (.move (.t 4)) 15, gt 18 (.idxStr (.t 16) (.t 17)) 15, gt 19 (.bin .neq (.t 18) (.c (.int .u8 (.ofNat 98)))) 15, op 20 (.pick (.t 15) (.t 19) (.c (.bool false)))])
 (.cond (.t 20) (.seq (.reg [op 2 (.move (.c (.bool false)))])
 .ret) .skip))
 (.reg [mv 21 3, mv 22 21, gf 23 (.move (.t 0)) 22, gf 24 (.move (.t 4)) 22, gf 25 (.idxStr (.t 23) (.t 24)) 22, gf 26 (.bin .eql (.t 25) (.c (.int .u8 (.ofNat 97)))) 22, op 27 (.pick (.t 22) (.c (.bool true)) (.t 26)), mv 3 27])))
 (.reg [mv 9 4, op 10 (.bin .add (.t 9) (ci 1)), mv 4 10]))))))
 (.seq (.reg [mv 28 3, mv 29 28, gt 30 (.move (.t 0)) 29, gt 31 (.move (.t 0)) 29, gt 32 (.lenStr (.t 31)) 29, gt 33 (.bin .sub (.t 32) (ci 1)) 29, gt 34 (.idxStr (.t 30) (.t 33)) 29, gt 35 (.bin .eql (.t 34) (.c (.int .u8 (.ofNat 98)))) 29, op 36 (.pick (.t 29) (.t 35) (.c (.bool false))), mv 2 36])
 .ret))))⟩
theorem c59_ok : cFunc Go.Proofs.Try.prog Go.Proofs.Try.f59 = some c59 := by kernel_rfl
/-- semigroup/machine.trim -/
def c70 : CFunc := ⟨99, [.cells 4 2], (.seq (.reg [op 1 (.box 66 (.t 0)), op 2 (.alloc 66 [(.int .i64 (.ofNat 0)), (.int .i64 (.ofNat 0)), (.slice none 0 0), (.slice none 0 0)])])
 (.seq (.reg [op 11 (.faddr 3 (.t 1)), op 12 (.load (.t 11)), op 13 (.lenSl (.t 12)), op 14 (.mkSlice 3 8 1 [(.int .i64 (.ofNat 0))] (.t 13) (.t 13)), mv 3 14])
 (.seq (.seq (.reg [mv 15 3, op 16 (.lenSl (.t 15)), op 17 (.move (ci 0))])
 (.block 0 (.loop (.seq (.reg [op 18 (.bin .lss (.t 17) (.t 16))])
 (.seq (.cond (.t 18) .skip (.exit 0))
 (.seq (.block 1 (.seq (.reg [mv 19 17, mv 4 19])
 (.reg [mv 20 3, mv 21 4, op 22 (.iaddr 1 (.t 20) (.t 21)), ⟨none, .store 1 (.t 22) (.c (.int .i64 (.negSucc 0))), none⟩])))
 (.reg [op 23 (.bin .add (.t 17) (ci 1)), mv 17 23])))))))
 (.seq (.reg [mv 24 3, op 25 (.faddr 1 (.t 1)), op 26 (.load (.t 25)), op 27 (.iaddr 1 (.t 24) (.t 26)), ⟨none, .store 1 (.t 27) (ci 0), none⟩])
 (.seq (.reg [op 28 (.faddr 1 (.t 1)), op 29 (.load (.t 28)), op 30 (.buildSlice 3 1 1 [(.int .i64 (.ofNat 0))] [(0, (.t 29))]), mv 5 30])
 (.seq (.reg [op 31 (.faddr 0 (.t 1)), op 32 (.load (.t 31)), op 33 (.build [(.int .i64 (.ofNat 0)), (.int .i64 (.ofNat 0)), (.slice none 0 0), (.slice none 0 0)] [(0, 1, (.t 32))]), op 6 (.alloc 66 [(.int .i64 (.ofNat 0)), (.int .i64 (.ofNat 0)), (.slice none 0 0), (.slice none 0 0)]), ⟨none, .store 4 (.t 6) (.t 33), none⟩])
 (.seq (.seq (.reg [op 7 (.move (ci 0))])
 (.block 2 (.loop (.seq (.seq (.reg [mv 34 7, mv 35 5, op 36 (.lenSl (.t 35)), op 37 (.bin .lss (.t 34) (.t 36))])
 (.cond (.t 37) .skip (.exit 2)))
 (.seq (.block 3 (.seq (.reg [op 40 (.faddr 0 (.t 1)), op 41 (.load (.t 40)), op 42 (.mkSlice 3 8 1 [(.int .i64 (.ofNat 0))] (.t 41) (.t 41)), mv 8 42])
 (.seq (.seq (.draw [(op 43 (.faddr 3 (.t 1)), 0), (op 44 (.load (.t 43)), 0), (mv 45 5, 0), (mv 46 7, 0), (op 47 (.iaddr 1 (.t 45) (.t 46)), 0), (op 48 (.load (.t 47)), 0), (op 49 (.iaddr 1 (.t 44) (.t 48)), 0), (op 50 (.load (.t 49)), 0), (op 51 (.lenSl (.t 50)), 0), (op 52 (.move (ci 0)), 0)])
 (.block 4 (.loop (.seq (.reg [op 53 (.bin .lss (.t 52) (.t 51))])
 (.seq (.cond (.t 53) .skip (.exit 4))
 (.seq (.block 5 (.seq (.reg [mv 54 52, op 55 (.iaddr 1 (.t 50) (.t 52)), op 56 (.load (.t 55)), mv 9 54, mv 10 56])
 (.seq (.seq (.reg [mv 57 3, mv 58 10, op 59 (.iaddr 1 (.t 57) (.t 58)), op 60 (.load (.t 59)), op 61 (.bin .lss (.t 60) (ci 0))])
 (.cond (.t 61) (.seq (.reg [mv 62 3, mv 63 10, mv 64 5, op 65 (.lenSl (.t 64)), op 66 (.iaddr 1 (.t 62) (.t 63)), ⟨none, .store 1 (.t 66) (.t 65), none⟩])
 (.reg [mv 67 5, mv 68 10, op 69 (.buildSlice 3 1 1 [(.int .i64 (.ofNat 0))] [(0, (.t 68))]), op 70 (.append 3 1 8 (.t 67) (.t 69)), mv 5 70])) .skip))
 (.reg [mv 71 8, mv 72 9, mv 73 3, mv 74 10, op 75 (.iaddr 1 (.t 73) (.t 74)), op 76 (.load (.t 75)), op 77 (.iaddr 1 (.t 71) (.t 72)), ⟨none, .store 1 (.t 77) (.t 76), none⟩]))))
 (.reg [op 78 (.bin .add (.t 52) (ci 1)), mv 52 78])))))))
 (.seq (.draw [(op 79 (.faddr 2 (.t 6)), 0), (op 80 (.load (.t 79)), 0), (op 81 (.faddr 2 (.t 1)), 0), (op 82 (.load (.t 81)), 0), (mv 83 5, 0), (mv 84 7, 0), (op 85 (.iaddr 1 (.t 83) (.t 84)), 0), (op 86 (.load (.t 85)), 0), (op 87 (.iaddr 1 (.t 82) (.t 86)), 0), (op 88 (.load (.t 87)), 0), (op 89 (.buildSlice 4 1 1 [(.bool false)] [(0, (.t 88))]), 0), (op 90 (.append 4 1 1 (.t 80) (.t 89)), 1), (op 91 (.faddr 2 (.t 6)), 1), (⟨none, .store 1 (.t 91) (.t 90), none⟩, 2)])
 (.reg [op 92 (.faddr 3 (.t 6)), op 93 (.load (.t 92)), mv 94 8, op 95 (.buildSlice 22 1 1 [(.slice none 0 0)] [(0, (.t 94))]), op 96 (.append 22 1 24 (.t 93) (.t 95)), op 97 (.faddr 3 (.t 6)), ⟨none, .store 1 (.t 97) (.t 96), none⟩])))))
 (.reg [mv 38 7, op 39 (.bin .add (.t 38) (ci 1)), mv 7 39]))))))
 (.seq (.reg [op 98 (.loadN 4 (.t 6)), ⟨none, .store 4 (.t 2) (.t 98), none⟩])
 .ret))))))))⟩
theorem c70_ok : cFunc Go.Proofs.Try.prog Go.Proofs.Try.f70 = some c70 := by kernel_rfl
/-- semigroup/dfa.Validate -/
def c75 : CFunc := ⟨71, [.tmp 2], (.seq (.reg [op 1 (.box 32 (.t 0)), op 2 (.move (ci 0))])
 (.seq (.reg [op 8 (.faddr 2 (.t 1)), op 9 (.load (.t 8)), op 10 (.lenSl (.t 9)), mv 3 10])
 (.seq (.block 0 (.seq (.reg [op 12 (.faddr 0 (.t 1)), op 13 (.load (.t 12)), op 14 (.bin .lss (.t 13) (ci 1)), mv 15 14, gf 16 (.faddr 0 (.t 1)) 15, gf 17 (.load (.t 16)) 15, gf 18 (.bin .gtr (.t 17) (ci 6)) 15, op 19 (.pick (.t 15) (.c (.bool true)) (.t 18)), mv 11 19])
 (.cond (.t 11) (.seq (.reg [op 2 (.move (ci 1))])
 .ret) (.seq (.reg [mv 21 3, op 22 (.bin .gtr (.t 21) (ci 512)), mv 20 22])
 (.cond (.t 20) (.seq (.reg [op 2 (.move (ci 3))])
 .ret) (.seq (.reg [mv 24 3, op 25 (.bin .eql (.t 24) (ci 0)), mv 26 25, gf 27 (.faddr 3 (.t 1)) 26, gf 28 (.load (.t 27)) 26, gf 29 (.lenSl (.t 28)) 26, gf 30 (.move (.t 3)) 26, gf 31 (.bin .neq (.t 29) (.t 30)) 26, op 32 (.pick (.t 26) (.c (.bool true)) (.t 31)), mv 33 32, gf 34 (.faddr 1 (.t 1)) 33, gf 35 (.load (.t 34)) 33, gf 36 (.bin .lss (.t 35) (ci 0)) 33, op 37 (.pick (.t 33) (.c (.bool true)) (.t 36)), mv 38 37, gf 39 (.faddr 1 (.t 1)) 38, gf 40 (.load (.t 39)) 38, gf 41 (.move (.t 3)) 38, gf 42 (.bin .geq (.t 40) (.t 41)) 38, op 43 (.pick (.t 38) (.c (.bool true)) (.t 42)), mv 23 43])
 (.cond (.t 23) (.seq (.reg [op 2 (.move (ci 4))])
 .ret) .skip)))))))
 (.seq (.seq (.reg [op 44 (.faddr 3 (.t 1)), op 45 (.load (.t 44)), op 46 (.lenSl (.t 45)), op 47 (.move (ci 0))])
 (.block 1 (.loop (.seq (.reg [op 48 (.bin .lss (.t 47) (.t 46))])
 (.seq (.cond (.t 48) .skip (.exit 1))
 (.seq (.block 2 (.seq (.reg [op 49 (.iaddr 1 (.t 45) (.t 47)), op 50 (.load (.t 49)), mv 5 50])
 (.seq (.seq (.reg [mv 51 5, op 52 (.lenSl (.t 51)), op 53 (.faddr 0 (.t 1)), op 54 (.load (.t 53)), op 55 (.bin .neq (.t 52) (.t 54))])
 (.cond (.t 55) (.seq (.reg [op 2 (.move (ci 4))])
 .ret) .skip))
 (.seq (.reg [mv 56 5, op 57 (.lenSl (.t 56)), op 58 (.move (ci 0))])
 (.block 3 (.loop (.seq (.reg [op 59 (.bin .lss (.t 58) (.t 57))])
 (.seq (.cond (.t 59) .skip (.exit 3))
 (.seq (.block 4 (.seq (.reg [op 60 (.iaddr 1 (.t 56) (.t 58)), op 61 (.load (.t 60)), mv 7 61])
 (.seq (.reg [mv 62 7, op 63 (.bin .lss (.t 62) (ci 0)), mv 64 63, gf 65 (.move (.t 7)) 64, gf 66 (.move (.t 3)) 64, gf 67 (.bin .geq (.t 65) (.t 66)) 64, op 68 (.pick (.t 64) (.c (.bool true)) (.t 67))])
 (.cond (.t 68) (.seq (.reg [op 2 (.move (ci 4))])
 .ret) .skip))))
 (.reg [op 69 (.bin .add (.t 58) (ci 1)), mv 58 69]))))))))))
 (.reg [op 70 (.bin .add (.t 47) (ci 1)), mv 47 70])))))))
 (.seq (.reg [op 2 (.move (ci 0))])
 .ret)))))⟩
theorem c75_ok : cFunc Go.Proofs.Try.prog Go.Proofs.Try.f75 = some c75 := by kernel_rfl
/-- semigroup/minimize.Minimal -/
def c78 : CFunc := ⟨15, [.cells 4 2], (.seq (.reg [op 1 (.box 32 (.t 0)), op 2 (.alloc 32 [(.int .i64 (.ofNat 0)), (.int .i64 (.ofNat 0)), (.slice none 0 0), (.slice none 0 0)])])
 (.seq (.seq (.reg [op 5 (.loadN 4 (.t 1)), op 6 (.call 75 [(.t 5)]), op 7 (.bin .neq (.t 6) (ci 0))])
 (.cond (.t 7) (.seq (.reg [op 8 (.build [(.int .i64 (.ofNat 0)), (.int .i64 (.ofNat 0)), (.slice none 0 0), (.slice none 0 0)] []), ⟨none, .store 4 (.t 2) (.t 8), none⟩])
 .ret) .skip))
 (.seq (.reg [op 10 (.loadN 4 (.t 1)), op 11 (.call 102 [(.t 10)]), mv 9 11, op 12 (.extract 0 (.t 9)), op 13 (.extract 1 (.t 9)), op 3 (.alloc 32 [(.int .i64 (.ofNat 0)), (.int .i64 (.ofNat 0)), (.slice none 0 0), (.slice none 0 0)]), ⟨none, .store 4 (.t 3) (.t 12), none⟩, mv 4 13])
 (.seq (.reg [op 14 (.loadN 4 (.t 3)), ⟨none, .store 4 (.t 2) (.t 14), none⟩])
 .ret))))⟩
theorem c78_ok : cFunc Go.Proofs.Try.prog Go.Proofs.Try.f78 = some c78 := by kernel_rfl
/-- semigroup/pattern.run -/
def c80 : CFunc := Go.EvK.c_pattern_run
theorem c80_ok : cFunc Go.Proofs.Try.prog Go.Proofs.Try.f80 = some c80 := by kernel_rfl
/-- (semigroup/pattern.runner).start -/
def c81 : CFunc := Go.EvK.c_pattern_runner_start
theorem c81_ok : cFunc Go.Proofs.Try.prog Go.Proofs.Try.f81 = some c81 := by kernel_rfl
/-- (semigroup/pattern.runner).step -/
def c82 : CFunc := Go.EvK.c_pattern_runner_step
theorem c82_ok : cFunc Go.Proofs.Try.prog Go.Proofs.Try.f82 = some c82 := by kernel_rfl
/-- (semigroup/pattern.runner).ends -/
def c83 : CFunc := Go.EvK.c_pattern_runner_ends
theorem c83_ok : cFunc Go.Proofs.Try.prog Go.Proofs.Try.f83 = some c83 := by kernel_rfl
/-- semigroup/semigroupref01.Upto -/
def c85 : CFunc := ⟨48, [.tmp 4], (.seq (.reg [op 4 (.move (.c (.slice none 0 0)))])
 (.seq (.reg [op 8 (.buildSlice 9 1 1 [(.string ⟨⟨[]⟩⟩)] [(0, (.c (.string ⟨⟨[]⟩⟩)))]), mv 5 8])
 (.seq (.seq (.reg [op 6 (.move (ci 0))])
 (.block 0 (.loop (.seq (.seq (.reg [mv 9 6, mv 10 5, op 11 (.lenSl (.t 10)), op 12 (.bin .lss (.t 9) (.t 11))])
 (.cond (.t 12) .skip (.exit 0)))
 (.seq (.block 1 (.seq (.reg [op 7 (.move (ci 0))])
 (.block 2 (.loop (.seq (.seq (.reg [mv 15 7, mv 16 0, op 17 (.bin .lss (.t 15) (.t 16)), mv 18 17, gt 19 (.move (.t 5)) 18, gt 20 (.move (.t 6)) 18, gt 21 (.iaddr 1 (.t 19) (.t 20)) 18, gt 22 (.load (.t 21)) 18, gt 23 (.lenStr (.t 22)) 18, gt 24 (.move (.t 1)) 18, gt 25 (.bin .lss (.t 23) (.t 24)) 18, op 26 (.pick (.t 18) (.t 25) (.c (.bool false))), mv 27 26, gt 28 (.move (.t 5)) 27, gt 29 (.lenSl (.t 28)) 27, gt 30 (.bin .lss (.t 29) (ci 2000)) 27, op 31 (.pick (.t 27) (.t 30) (.c (.bool false)))])
 (.cond (.t 31) .skip (.exit 2)))
 (.seq (.block 3 (.draw [(mv 34 5, 0), (mv 35 5, 0), (mv 36 6, 0), (op 37 (.iaddr 1 (.t 35) (.t 36)), 0), (op 38 (.load (.t 37)), 0), (mv 39 7, 0), (op 40 (.bin .add (ci 97) (.t 39)), 0), (op 41 (.conv .u8 (.t 40)), 0), (op 42 (.buildSlice 5 1 1 [(.int .u8 (.ofNat 0))] [(0, (.t 41))]), 0), (op 43 (.strOf (.t 42)), 0), (op 44 (.bin .add (.t 38) (.t 43)), 0), (op 45 (.buildSlice 9 1 1 [(.string ⟨⟨[]⟩⟩)] [(0, (.t 44))]), 0), (op 46 (.append 9 1 16 (.t 34) (.t 45)), 1), (mv 5 46, 1)]))
 (.reg [mv 32 7, op 33 (.bin .add (.t 32) (ci 1)), mv 7 33])))))))
 (.reg [mv 13 6, op 14 (.bin .add (.t 13) (ci 1)), mv 6 14]))))))
 (.seq (.reg [mv 47 5, mv 4 47])
 .ret))))⟩
theorem c85_ok : cFunc Go.Proofs.Try.prog Go.Proofs.Try.f85 = some c85 := by kernel_rfl
/-- semigroup/semigroupref33.chains -/
def c86 : CFunc := ⟨79, [.tmp 4], (.seq (.reg [op 4 (.move (.c (.slice none 0 0)))])
 (.seq (.reg [op 5 (.move (.c (.slice none 0 0)))])
 (.seq (.reg [op 15 (.buildSlice 46 1 0 [] []), mv 6 15])
 (.seq (.seq (.reg [mv 16 0, op 17 (.lenSl (.t 16)), op 18 (.move (ci 0))])
 (.block 0 (.loop (.seq (.reg [op 19 (.bin .lss (.t 18) (.t 17))])
 (.seq (.cond (.t 19) .skip (.exit 0))
 (.seq (.block 1 (.seq (.reg [op 20 (.iaddr 1 (.t 16) (.t 18)), op 21 (.load (.t 20)), mv 8 21])
 (.reg [mv 22 6, mv 23 8, op 24 (.buildSlice 9 1 1 [(.string ⟨⟨[]⟩⟩)] [(0, (.t 23))]), op 25 (.buildSlice 46 1 1 [(.slice none 0 0)] [(0, (.t 24))]), op 26 (.append 46 1 24 (.t 22) (.t 25)), mv 6 26])))
 (.reg [op 27 (.bin .add (.t 18) (ci 1)), mv 18 27])))))))
 (.seq (.seq (.reg [op 9 (.move (ci 0))])
 (.block 2 (.loop (.seq (.seq (.reg [mv 28 9, mv 29 1, op 30 (.bin .leq (.t 28) (.t 29))])
 (.cond (.t 30) .skip (.exit 2)))
 (.seq (.block 3 (.seq (.reg [op 10 (.move (.c (.slice none 0 0)))])
 (.seq (.seq (.reg [mv 33 6, op 34 (.lenSl (.t 33)), op 35 (.move (ci 0))])
 (.block 4 (.loop (.seq (.reg [op 36 (.bin .lss (.t 35) (.t 34))])
 (.seq (.cond (.t 36) .skip (.exit 4))
 (.seq (.block 5 (.seq (.reg [op 37 (.iaddr 1 (.t 33) (.t 35)), op 38 (.load (.t 37)), mv 12 38])
 (.seq (.reg [mv 39 0, op 40 (.lenSl (.t 39)), op 41 (.move (ci 0))])
 (.block 6 (.loop (.seq (.reg [op 42 (.bin .lss (.t 41) (.t 40))])
 (.seq (.cond (.t 42) .skip (.exit 6))
 (.seq (.block 7 (.seq (.reg [op 43 (.iaddr 1 (.t 39) (.t 41)), op 44 (.load (.t 43)), mv 14 44])
 (.seq (.seq (.reg [mv 45 5, op 46 (.lenSl (.t 45)), op 47 (.bin .gtr (.t 46) (ci 300))])
 (.cond (.t 47) (.seq (.reg [mv 48 5, mv 4 48])
 .ret) .skip))
 (.seq (.reg [mv 49 5, op 50 (.buildSlice 9 1 0 [] []), mv 51 12, op 52 (.append 9 1 16 (.t 50) (.t 51)), mv 53 14, op 54 (.buildSlice 9 1 1 [(.string ⟨⟨[]⟩⟩)] [(0, (.t 53))]), op 55 (.append 9 1 16 (.t 52) (.t 54)), op 56 (.build [(.slice none 0 0)] [(0, 1, (.t 55))]), op 57 (.buildSlice 48 1 1 [(.slice none 0 0)] [(0, (.t 56))]), op 58 (.append 48 1 24 (.t 49) (.t 57)), mv 5 58])
 (.seq (.reg [mv 59 14, op 60 (.bin .neq (.t 59) (.c (.string ⟨⟨[]⟩⟩))), mv 61 60, gt 62 (.move (.t 9)) 61, gt 63 (.move (.t 1)) 61, gt 64 (.bin .lss (.t 62) (.t 63)) 61, op 65 (.pick (.t 61) (.t 64) (.c (.bool false)))])
 (.cond (.t 65) (.reg [mv 66 10, op 67 (.buildSlice 9 1 0 [] []), mv 68 12, op 69 (.append 9 1 16 (.t 67) (.t 68)), mv 70 14, op 71 (.buildSlice 9 1 1 [(.string ⟨⟨[]⟩⟩)] [(0, (.t 70))]), op 72 (.append 9 1 16 (.t 69) (.t 71)), op 73 (.buildSlice 46 1 1 [(.slice none 0 0)] [(0, (.t 72))]), op 74 (.append 46 1 24 (.t 66) (.t 73)), mv 10 74]) .skip))))))
 (.reg [op 75 (.bin .add (.t 41) (ci 1)), mv 41 75])))))))))
 (.reg [op 76 (.bin .add (.t 35) (ci 1)), mv 35 76])))))))
 (.reg [mv 77 10, mv 6 77]))))
 (.reg [mv 31 9, op 32 (.bin .add (.t 31) (ci 1)), mv 9 32]))))))
 (.seq (.reg [mv 78 5, mv 4 78])
 .ret))))))⟩
theorem c86_ok : cFunc Go.Proofs.Try.prog Go.Proofs.Try.f86 = some c86 := by kernel_rfl
/-- semigroup/semigroupref33.Less -/
def c87 : CFunc := ⟨43, [.tmp 4], (.seq (.reg [op 2 (.box 48 (.t 0)), op 3 (.box 48 (.t 1)), op 4 (.move (.c (.bool false)))])
 (.seq (.seq (.reg [op 7 (.faddr 0 (.t 2)), op 8 (.load (.t 7)), op 9 (.lenSl (.t 8)), op 10 (.faddr 0 (.t 3)), op 11 (.load (.t 10)), op 12 (.lenSl (.t 11)), op 13 (.bin .neq (.t 9) (.t 12))])
 (.cond (.t 13) (.seq (.reg [op 14 (.faddr 0 (.t 2)), op 15 (.load (.t 14)), op 16 (.lenSl (.t 15)), op 17 (.faddr 0 (.t 3)), op 18 (.load (.t 17)), op 19 (.lenSl (.t 18)), op 20 (.bin .lss (.t 16) (.t 19)), mv 4 20])
 .ret) .skip))
 (.seq (.seq (.reg [op 21 (.faddr 0 (.t 2)), op 22 (.load (.t 21)), op 23 (.lenSl (.t 22)), op 24 (.move (ci 0))])
 (.block 0 (.loop (.seq (.reg [op 25 (.bin .lss (.t 24) (.t 23))])
 (.seq (.cond (.t 25) .skip (.exit 0))
 (.seq (.block 1 (.seq (.reg [mv 26 24, mv 5 26])
 (.seq (.draw [(op 27 (.faddr 0 (.t 2)), 0), (op 28 (.load (.t 27)), 0), (mv 29 5, 0), (op 30 (.iaddr 1 (.t 28) (.t 29)), 0), (op 31 (.load (.t 30)), 0), (op 32 (.faddr 0 (.t 3)), 0), (op 33 (.load (.t 32)), 0), (mv 34 5, 0), (op 35 (.iaddr 1 (.t 33) (.t 34)), 0), (op 36 (.load (.t 35)), 0), (op 37 (.call 105 [(.t 31), (.t 36)]), 1), (mv 6 37, 1)])
 (.seq (.reg [mv 38 6, op 39 (.bin .neq (.t 38) (ci 0))])
 (.cond (.t 39) (.seq (.reg [mv 40 6, op 41 (.bin .lss (.t 40) (ci 0)), mv 4 41])
 .ret) .skip)))))
 (.reg [op 42 (.bin .add (.t 24) (ci 1)), mv 24 42])))))))
 (.seq (.reg [op 4 (.move (.c (.bool false)))])
 .ret))))⟩
theorem c87_ok : cFunc Go.Proofs.Try.prog Go.Proofs.Try.f87 = some c87 := by kernel_rfl
/-- semigroup/combine.Of$1 -/
def c88 : CFunc := ⟨6, [.tmp 2], (.seq (.reg [op 2 (.move (.c (.bool false)))])
 (.seq (.reg [mv 3 0, op 4 (.iaddr 1 (.t 3) (ci 0)), op 5 (.load (.t 4)), mv 2 5])
 .ret))⟩
theorem c88_ok : cFunc Go.Proofs.Try.prog Go.Proofs.Try.f88 = some c88 := by kernel_rfl
/-- semigroup/combine.Of$2 -/
def c89 : CFunc := ⟨7, [.tmp 2], (.seq (.reg [op 2 (.move (.c (.bool false)))])
 (.seq (.reg [mv 3 0, op 4 (.iaddr 1 (.t 3) (ci 0)), op 5 (.load (.t 4)), op 6 (.not (.t 5)), mv 2 6])
 .ret))⟩
theorem c89_ok : cFunc Go.Proofs.Try.prog Go.Proofs.Try.f89 = some c89 := by kernel_rfl
/-- semigroup/combine.Tell -/
def c90 : CFunc := ⟨242, [.cells 3 10, .tmp 11, .tmp 12, .tmp 13, .tmp 14], (.seq (.reg [op 10 (.alloc 45 [(.slice none 0 0), (.slice none 0 0), (.int .i64 (.ofNat 0))]), op 11 (.move (.c (.string ⟨⟨[]⟩⟩))), op 12 (.move (.c (.string ⟨⟨[]⟩⟩))), op 13 (.move (.c (.bool false))), op 14 (.move (ci 0))])
 (.seq (.reg [mv 37 0, mv 38 2, op 39 (.call 106 [(.t 37), (.t 38)]), mv 36 39, op 40 (.extract 0 (.t 36)), op 41 (.extract 1 (.t 36)), mv 15 40, mv 16 41])
 (.seq (.seq (.reg [mv 42 16, op 43 (.bin .neq (.t 42) (ci 0))])
 (.cond (.t 43) (.seq (.reg [op 44 (.build [(.slice none 0 0), (.slice none 0 0), (.int .i64 (.ofNat 0))] []), mv 45 16, ⟨none, .store 3 (.t 10) (.t 44), none⟩, op 11 (.move (.c (.string ⟨⟨[]⟩⟩))), op 12 (.move (.c (.string ⟨⟨[]⟩⟩))), op 13 (.move (.c (.bool false))), mv 14 45])
 .ret) .skip))
 (.seq (.reg [mv 47 15, mv 48 1, op 49 (.append 32 4 64 (.t 47) (.t 48)), mv 50 2, op 51 (.call 107 [(.t 49), (.t 50)]), mv 46 51, op 52 (.extract 0 (.t 46)), op 53 (.extract 1 (.t 46)), op 17 (.alloc 149 [(.slice none 0 0), (.slice none 0 0), (.slice none 0 0), (.slice none 0 0)]), ⟨none, .store 4 (.t 17) (.t 52), none⟩, mv 18 53])
 (.seq (.seq (.reg [mv 54 18, op 55 (.not (.t 54))])
 (.cond (.t 55) (.seq (.reg [op 56 (.build [(.slice none 0 0), (.slice none 0 0), (.int .i64 (.ofNat 0))] []), ⟨none, .store 3 (.t 10) (.t 56), none⟩, op 11 (.move (.c (.string ⟨⟨[]⟩⟩))), op 12 (.move (.c (.string ⟨⟨[]⟩⟩))), op 13 (.move (.c (.bool false))), op 14 (.move (ci 3))])
 .ret) .skip))
 (.seq (.reg [op 57 (.mkMap), mv 19 57])
 (.seq (.reg [op 20 (.move (.c (.slice none 0 0)))])
 (.seq (.seq (.reg [op 58 (.faddr 0 (.t 17)), op 59 (.load (.t 58)), op 60 (.lenSl (.t 59)), op 61 (.move (ci 0))])
 (.block 0 (.loop (.seq (.reg [op 62 (.bin .lss (.t 61) (.t 60))])
 (.seq (.cond (.t 62) .skip (.exit 0))
 (.seq (.block 1 (.seq (.reg [mv 63 61, op 64 (.iaddr 1 (.t 59) (.t 61)), op 65 (.load (.t 64)), mv 21 63, mv 22 65])
 (.seq (.reg [mv 66 15, op 67 (.lenSl (.t 66)), op 68 (.mkSlice 4 1 1 [(.bool false)] (.t 67) (.t 67)), mv 23 68])
 (.seq (.reg [mv 69 15, op 70 (.lenSl (.t 69)), op 71 (.mkSlice 5 1 1 [(.int .u8 (.ofNat 0))] (.t 70) (.t 70)), mv 24 71])
 (.seq (.seq (.reg [mv 72 15, op 73 (.lenSl (.t 72)), op 74 (.move (ci 0))])
 (.block 2 (.loop (.seq (.reg [op 75 (.bin .lss (.t 74) (.t 73))])
 (.seq (.cond (.t 75) .skip (.exit 2))
 (.seq (.block 3 (.seq (.reg [mv 76 74, mv 25 76])
 (.seq (.draw [(mv 77 23, 0), (mv 78 25, 0), (mv 79 15, 0), (mv 80 25, 0), (op 81 (.iaddr 4 (.t 79) (.t 80)), 0), (op 82 (.faddr 2 (.t 81)), 0), (op 83 (.load (.t 82)), 0), (mv 84 22, 0), (mv 85 25, 0), (op 86 (.iaddr 1 (.t 84) (.t 85)), 0), (op 87 (.load (.t 86)), 0), (op 88 (.iaddr 1 (.t 83) (.t 87)), 0), (op 89 (.load (.t 88)), 0), (op 90 (.iaddr 1 (.t 77) (.t 78)), 0), (⟨none, .store 1 (.t 90) (.t 89), none⟩, 1)])
 (.seq (.reg [mv 91 23, mv 92 25, op 93 (.iaddr 1 (.t 91) (.t 92)), op 94 (.load (.t 93))])
 (.cond (.t 94) (.reg [mv 95 24, mv 96 25, op 97 (.iaddr 1 (.t 95) (.t 96)), ⟨none, .store 1 (.t 97) (.c (.int .u8 (.ofNat 1))), none⟩]) .skip)))))
 (.reg [op 98 (.bin .add (.t 74) (ci 1)), mv 74 98])))))))
 (.seq (.reg [mv 99 1, op 100 (.lenSl (.t 99)), op 101 (.mkSlice 4 1 1 [(.bool false)] (.t 100) (.t 100)), mv 26 101])
 (.seq (.seq (.reg [mv 102 1, op 103 (.lenSl (.t 102)), op 104 (.move (ci 0))])
 (.block 4 (.loop (.seq (.reg [op 105 (.bin .lss (.t 104) (.t 103))])
 (.seq (.cond (.t 105) .skip (.exit 4))
 (.seq (.block 5 (.seq (.reg [mv 106 104, op 107 (.iaddr 4 (.t 102) (.t 104)), op 108 (.loadN 4 (.t 107)), op 28 (.alloc 32 [(.int .i64 (.ofNat 0)), (.int .i64 (.ofNat 0)), (.slice none 0 0), (.slice none 0 0)]), mv 27 106, ⟨none, .store 4 (.t 28) (.t 108), none⟩])
 (.draw [(mv 109 26, 0), (mv 110 27, 0), (op 111 (.faddr 2 (.t 28)), 0), (op 112 (.load (.t 111)), 0), (mv 113 22, 0), (mv 114 15, 0), (op 115 (.lenSl (.t 114)), 0), (mv 116 27, 0), (op 117 (.bin .add (.t 115) (.t 116)), 0), (op 118 (.iaddr 1 (.t 113) (.t 117)), 0), (op 119 (.load (.t 118)), 0), (op 120 (.iaddr 1 (.t 112) (.t 119)), 0), (op 121 (.load (.t 120)), 0), (op 122 (.iaddr 1 (.t 109) (.t 110)), 0), (⟨none, .store 1 (.t 122) (.t 121), none⟩, 1)])))
 (.reg [op 123 (.bin .add (.t 104) (ci 1)), mv 104 123])))))))
 (.seq (.reg [mv 125 19, mv 126 24, op 127 (.strOf (.t 126)), op 128 (.lookup (.one .str) (.int .i64 (.ofNat 0)) true (.t 125) (.t 127)), mv 124 128, op 129 (.extract 0 (.t 124)), op 130 (.extract 1 (.t 124)), mv 29 129, mv 30 130])
 (.seq (.seq (.reg [mv 131 30, op 132 (.not (.t 131))])
 (.cond (.t 132) (.seq (.reg [mv 133 20, op 134 (.lenSl (.t 133)), mv 29 134])
 (.seq (.reg [mv 135 19, mv 136 24, op 137 (.strOf (.t 136)), mv 138 29, ⟨none, .mapSet (.one .str) (.t 135) (.t 137) (.t 138), none⟩])
 (.reg [mv 139 20, mv 140 23, op 141 (.build [(.slice none 0 0), (.bool false), (.bool false), (.int .i64 (.ofNat 0)), (.int .i64 (.ofNat 0))] [(0, 1, (.t 140))]), op 142 (.buildSlice 154 5 1 [(.slice none 0 0), (.bool false), (.bool false), (.int .i64 (.ofNat 0)), (.int .i64 (.ofNat 0))] [(0, (.t 141))]), op 143 (.append 154 5 48 (.t 139) (.t 142)), mv 20 143]))) .skip))
 (.seq (.seq (.reg [mv 144 3, mv 145 26, op 146 (.callv (.t 144) [(.t 145)]), mv 147 146, gt 148 (.move (.t 20)) 147, gt 149 (.move (.t 29)) 147, gt 150 (.iaddr 5 (.t 148) (.t 149)) 147, gt 151 (.faddr 1 (.t 150)) 147, gt 152 (.load (.t 151)) 147, gt 153 (.not (.t 152)) 147, op 154 (.pick (.t 147) (.t 153) (.c (.bool false)))])
 (.cond (.t 154) (.reg [mv 155 20, mv 156 29, mv 157 20, mv 158 29, mv 159 21, op 160 (.iaddr 5 (.t 155) (.t 156)), op 161 (.faddr 1 (.t 160)), ⟨none, .store 1 (.t 161) (.c (.bool true)), none⟩, op 162 (.iaddr 5 (.t 157) (.t 158)), op 163 (.faddr 3 (.t 162)), ⟨none, .store 1 (.t 163) (.t 159), none⟩]) .skip))
 (.seq (.reg [mv 164 4, mv 165 26, op 166 (.callv (.t 164) [(.t 165)]), mv 167 166, gt 168 (.move (.t 20)) 167, gt 169 (.move (.t 29)) 167, gt 170 (.iaddr 5 (.t 168) (.t 169)) 167, gt 171 (.faddr 2 (.t 170)) 167, gt 172 (.load (.t 171)) 167, gt 173 (.not (.t 172)) 167, op 174 (.pick (.t 167) (.t 173) (.c (.bool false)))])
 (.cond (.t 174) (.reg [mv 175 20, mv 176 29, mv 177 20, mv 178 29, mv 179 21, op 180 (.iaddr 5 (.t 175) (.t 176)), op 181 (.faddr 2 (.t 180)), ⟨none, .store 1 (.t 181) (.c (.bool true)), none⟩, op 182 (.iaddr 5 (.t 177) (.t 178)), op 183 (.faddr 4 (.t 182)), ⟨none, .store 1 (.t 183) (.t 179), none⟩]) .skip))))))))))))
 (.reg [op 184 (.bin .add (.t 61) (ci 1)), mv 61 184])))))))
 (.seq (.seq (.reg [mv 185 20, op 186 (.lenSl (.t 185)), op 187 (.move (ci 0))])
 (.block 6 (.loop (.seq (.reg [op 188 (.bin .lss (.t 187) (.t 186))])
 (.seq (.cond (.t 188) .skip (.exit 6))
 (.seq (.block 7 (.seq (.reg [op 189 (.iaddr 5 (.t 185) (.t 187)), op 190 (.loadN 5 (.t 189)), op 32 (.alloc 154 [(.slice none 0 0), (.bool false), (.bool false), (.int .i64 (.ofNat 0)), (.int .i64 (.ofNat 0))]), ⟨none, .store 5 (.t 32) (.t 190), none⟩])
 (.seq (.reg [op 191 (.faddr 1 (.t 32)), op 192 (.load (.t 191)), mv 193 192, gt 194 (.faddr 2 (.t 32)) 193, gt 195 (.load (.t 194)) 193, op 196 (.pick (.t 193) (.t 195) (.c (.bool false)))])
 (.cond (.t 196) (.seq (.draw [(op 197 (.build [(.slice none 0 0), (.slice none 0 0), (.int .i64 (.ofNat 0))] []), 2), (op 198 (.loadN 4 (.t 17)), 0), (op 199 (.faddr 3 (.t 32)), 0), (op 200 (.load (.t 199)), 0), (op 202 (.loadN 4 (.t 17)), 1), (op 203 (.faddr 4 (.t 32)), 1), (op 204 (.load (.t 203)), 1), (op 201 (.call 108 [(.t 198), (.t 200)]), 1), (op 205 (.call 108 [(.t 202), (.t 204)]), 2), (⟨none, .store 3 (.t 10) (.t 197), none⟩, 3), (mv 11 201, 3), (mv 12 205, 3), (op 13 (.move (.c (.bool false))), 3), (op 14 (.move (ci 0)), 3)])
 .ret) .skip))))
 (.reg [op 206 (.bin .add (.t 187) (ci 1)), mv 187 206])))))))
 (.seq (.reg [op 207 (.build [(.slice none 0 0), (.slice none 0 0), (.int .i64 (.ofNat 0))] []), op 208 (.box 158 (.t 207)), mv 33 208])
 (.seq (.seq (.reg [mv 209 0, op 210 (.lenSl (.t 209)), op 211 (.move (ci 0))])
 (.block 8 (.loop (.seq (.reg [op 212 (.bin .lss (.t 211) (.t 210))])
 (.seq (.cond (.t 212) .skip (.exit 8))
 (.seq (.block 9 (.seq (.reg [op 213 (.iaddr 1 (.t 209) (.t 211)), op 214 (.loadN 1 (.t 213)), op 35 (.alloc 48 [(.slice none 0 0)]), ⟨none, .store 1 (.t 35) (.t 214), none⟩])
 (.draw [(mv 215 33, 2), (mv 216 33, 1), (op 217 (.nilCheck (.t 216)), 1), (op 218 (.faddr 0 (.t 217)), 1), (op 219 (.faddr 0 (.t 218)), 1), (op 220 (.load (.t 219)), 1), (op 221 (.faddr 0 (.t 35)), 0), (op 222 (.load (.t 221)), 0), (op 223 (.append 9 1 16 (.c (.slice none 0 0)) (.t 222)), 1), (op 224 (.build [(.slice none 0 0)] [(0, 1, (.t 223))]), 1), (op 225 (.buildSlice 48 1 1 [(.slice none 0 0)] [(0, (.t 224))]), 1), (op 226 (.append 48 1 24 (.t 220) (.t 225)), 2), (op 227 (.nilCheck (.t 215)), 2), (op 228 (.faddr 0 (.t 227)), 2), (op 229 (.faddr 0 (.t 228)), 2), (⟨none, .store 1 (.t 229) (.t 226), none⟩, 3)])))
 (.reg [op 230 (.bin .add (.t 211) (ci 1)), mv 211 230])))))))
 (.seq (.reg [mv 231 33, mv 232 33, mv 233 20, op 234 (.call 109 [(.t 232), (.t 233), (ci 0)]), op 235 (.nilCheck (.t 231)), op 236 (.faddr 0 (.t 235)), op 237 (.faddr 2 (.t 236)), ⟨none, .store 1 (.t 237) (.t 234), none⟩])
 (.seq (.reg [mv 238 33, op 239 (.nilCheck (.t 238)), op 240 (.faddr 0 (.t 239)), op 241 (.loadN 3 (.t 240)), ⟨none, .store 3 (.t 10) (.t 241), none⟩, op 11 (.move (.c (.string ⟨⟨[]⟩⟩))), op 12 (.move (.c (.string ⟨⟨[]⟩⟩))), op 13 (.move (.c (.bool true))), op 14 (.move (ci 0))])
 .ret)))))))))))))⟩
theorem c90_ok : cFunc Go.Proofs.Try.prog Go.Proofs.Try.f90 = some c90 := by kernel_rfl
/-- semigroup/minimize.minimal -/
def c102 : CFunc := ⟨125, [.cells 4 2, .tmp 3], (.seq (.reg [op 1 (.box 32 (.t 0)), op 2 (.alloc 32 [(.int .i64 (.ofNat 0)), (.int .i64 (.ofNat 0)), (.slice none 0 0), (.slice none 0 0)]), op 3 (.move (.c (.slice none 0 0)))])
 (.seq (.reg [op 18 (.loadN 4 (.t 1)), op 19 (.call 121 [(.t 18)]), mv 17 19, op 20 (.extract 0 (.t 17)), op 21 (.extract 1 (.t 17)), op 4 (.alloc 32 [(.int .i64 (.ofNat 0)), (.int .i64 (.ofNat 0)), (.slice none 0 0), (.slice none 0 0)]), ⟨none, .store 4 (.t 4) (.t 20), none⟩, mv 5 21])
 (.seq (.reg [op 22 (.loadN 4 (.t 4)), op 23 (.call 122 [(.t 22)]), mv 6 23])
 (.seq (.draw [(op 24 (.faddr 0 (.t 4)), 0), (op 25 (.load (.t 24)), 0), (mv 26 6, 0), (op 27 (.iaddr 1 (.t 26) (ci 0)), 0), (op 28 (.load (.t 27)), 0), (op 29 (.build [(.int .i64 (.ofNat 0)), (.int .i64 (.ofNat 0)), (.slice none 0 0), (.slice none 0 0)] [(0, 1, (.t 25)), (1, 1, (.t 28))]), 0), (op 7 (.alloc 32 [(.int .i64 (.ofNat 0)), (.int .i64 (.ofNat 0)), (.slice none 0 0), (.slice none 0 0)]), 0), (⟨none, .store 4 (.t 7) (.t 29), none⟩, 1)])
 (.seq (.reg [mv 30 6, op 31 (.call 123 [(.t 30)]), op 32 (.mkSlice 4 1 1 [(.bool false)] (.t 31) (.t 31)), op 33 (.faddr 2 (.t 7)), ⟨none, .store 1 (.t 33) (.t 32), none⟩])
 (.seq (.reg [op 34 (.faddr 2 (.t 7)), op 35 (.load (.t 34)), op 36 (.lenSl (.t 35)), op 37 (.mkSlice 22 24 1 [(.slice none 0 0)] (.t 36) (.t 36)), op 38 (.faddr 3 (.t 7)), ⟨none, .store 1 (.t 38) (.t 37), none⟩])
 (.seq (.seq (.reg [mv 39 6, op 40 (.lenSl (.t 39)), op 41 (.move (ci 0))])
 (.block 0 (.loop (.seq (.reg [op 42 (.bin .lss (.t 41) (.t 40))])
 (.seq (.cond (.t 42) .skip (.exit 0))
 (.seq (.block 1 (.seq (.reg [mv 43 41, op 44 (.iaddr 1 (.t 39) (.t 41)), op 45 (.load (.t 44)), mv 8 43, mv 9 45])
 (.seq (.seq (.reg [op 46 (.faddr 3 (.t 7)), op 47 (.load (.t 46)), mv 48 9, op 49 (.iaddr 1 (.t 47) (.t 48)), op 50 (.load (.t 49)), op 51 (.eqNil .sl true (.t 50))])
 (.cond (.t 51) (.exit 1) .skip))
 (.seq (.draw [(op 52 (.faddr 2 (.t 7)), 0), (op 53 (.load (.t 52)), 0), (mv 54 9, 0), (op 55 (.faddr 2 (.t 4)), 0), (op 56 (.load (.t 55)), 0), (mv 57 8, 0), (op 58 (.iaddr 1 (.t 56) (.t 57)), 0), (op 59 (.load (.t 58)), 0), (op 60 (.iaddr 1 (.t 53) (.t 54)), 0), (⟨none, .store 1 (.t 60) (.t 59), none⟩, 1)])
 (.seq (.draw [(op 61 (.faddr 3 (.t 7)), 0), (op 62 (.load (.t 61)), 0), (mv 63 9, 0), (op 64 (.faddr 0 (.t 4)), 0), (op 65 (.load (.t 64)), 0), (op 66 (.mkSlice 3 8 1 [(.int .i64 (.ofNat 0))] (.t 65) (.t 65)), 0), (op 67 (.iaddr 1 (.t 62) (.t 63)), 0), (⟨none, .store 1 (.t 67) (.t 66), none⟩, 1)])
 (.seq (.reg [op 68 (.faddr 3 (.t 4)), op 69 (.load (.t 68)), mv 70 8, op 71 (.iaddr 1 (.t 69) (.t 70)), op 72 (.load (.t 71)), op 73 (.lenSl (.t 72)), op 74 (.move (ci 0))])
 (.block 2 (.loop (.seq (.reg [op 75 (.bin .lss (.t 74) (.t 73))])
 (.seq (.cond (.t 75) .skip (.exit 2))
 (.seq (.block 3 (.seq (.reg [mv 76 74, op 77 (.iaddr 1 (.t 72) (.t 74)), op 78 (.load (.t 77)), mv 10 76, mv 11 78])
 (.draw [(op 79 (.faddr 3 (.t 7)), 0), (op 80 (.load (.t 79)), 0), (mv 81 9, 0), (op 82 (.iaddr 1 (.t 80) (.t 81)), 0), (op 83 (.load (.t 82)), 0), (mv 84 10, 0), (mv 85 6, 0), (mv 86 11, 0), (op 87 (.iaddr 1 (.t 85) (.t 86)), 0), (op 88 (.load (.t 87)), 0), (op 89 (.iaddr 1 (.t 83) (.t 84)), 0), (⟨none, .store 1 (.t 89) (.t 88), none⟩, 1)])))
 (.reg [op 90 (.bin .add (.t 74) (ci 1)), mv 74 90]))))))))))))
 (.reg [op 91 (.bin .add (.t 41) (ci 1)), mv 41 91])))))))
 (.seq (.reg [op 93 (.loadN 4 (.t 7)), op 94 (.call 121 [(.t 93)]), mv 92 94, op 95 (.extract 0 (.t 92)), op 96 (.extract 1 (.t 92)), op 12 (.alloc 32 [(.int .i64 (.ofNat 0)), (.int .i64 (.ofNat 0)), (.slice none 0 0), (.slice none 0 0)]), ⟨none, .store 4 (.t 12) (.t 95), none⟩, mv 13 96])
 (.seq (.reg [mv 97 5, op 98 (.lenSl (.t 97)), op 99 (.mkSlice 3 8 1 [(.int .i64 (.ofNat 0))] (.t 98) (.t 98)), mv 14 99])
 (.seq (.seq (.reg [mv 100 5, op 101 (.lenSl (.t 100)), op 102 (.move (ci 0))])
 (.block 4 (.loop (.seq (.reg [op 103 (.bin .lss (.t 102) (.t 101))])
 (.seq (.cond (.t 103) .skip (.exit 4))
 (.seq (.block 5 (.seq (.reg [mv 104 102, op 105 (.iaddr 1 (.t 100) (.t 102)), op 106 (.load (.t 105)), mv 15 104, mv 16 106])
 (.seq (.reg [mv 107 14, mv 108 15, op 109 (.iaddr 1 (.t 107) (.t 108)), ⟨none, .store 1 (.t 109) (.c (.int .i64 (.negSucc 0))), none⟩])
 (.seq (.reg [mv 110 16, op 111 (.bin .geq (.t 110) (ci 0))])
 (.cond (.t 111) (.reg [mv 112 14, mv 113 15, mv 114 13, mv 115 6, mv 116 16, op 117 (.iaddr 1 (.t 115) (.t 116)), op 118 (.load (.t 117)), op 119 (.iaddr 1 (.t 114) (.t 118)), op 120 (.load (.t 119)), op 121 (.iaddr 1 (.t 112) (.t 113)), ⟨none, .store 1 (.t 121) (.t 120), none⟩]) .skip)))))
 (.reg [op 122 (.bin .add (.t 102) (ci 1)), mv 102 122])))))))
 (.seq (.reg [op 123 (.loadN 4 (.t 12)), mv 124 14, ⟨none, .store 4 (.t 2) (.t 123), none⟩, mv 3 124])
 .ret)))))))))))⟩
theorem c102_ok : cFunc Go.Proofs.Try.prog Go.Proofs.Try.f102 = some c102 := by kernel_rfl
/-- (semigroup/pattern.runner).clean -/
def c103 : CFunc := Go.EvK.c_pattern_runner_clean
theorem c103_ok : cFunc Go.Proofs.Try.prog Go.Proofs.Try.f103 = some c103 := by kernel_rfl
/-- semigroup/semigroupref01.Compare -/
def c105 : CFunc := ⟨27, [.tmp 4], (.seq (.reg [op 4 (.move (ci 0))])
 (.seq (.block 0 (.seq (.reg [mv 6 0, op 7 (.lenStr (.t 6)), mv 8 1, op 9 (.lenStr (.t 8)), op 10 (.bin .lss (.t 7) (.t 9)), mv 11 10, gf 12 (.move (.t 0)) 11, gf 13 (.lenStr (.t 12)) 11, gf 14 (.move (.t 1)) 11, gf 15 (.lenStr (.t 14)) 11, gf 16 (.bin .eql (.t 13) (.t 15)) 11, gf 17 (.move (.t 16)) 11, gt 18 (.move (.t 0)) 17, gt 19 (.move (.t 1)) 17, gt 20 (.bin .lss (.t 18) (.t 19)) 17, gf 21 (.pick (.t 17) (.t 20) (.c (.bool false))) 11, op 22 (.pick (.t 11) (.c (.bool true)) (.t 21)), mv 5 22])
 (.cond (.t 5) (.seq (.reg [op 4 (.move (.c (.int .i64 (.negSucc 0))))])
 .ret) (.seq (.reg [mv 24 0, mv 25 1, op 26 (.bin .eql (.t 24) (.t 25)), mv 23 26])
 (.cond (.t 23) (.seq (.reg [op 4 (.move (ci 0))])
 .ret) .skip)))))
 (.seq (.reg [op 4 (.move (ci 1))])
 .ret)))⟩
theorem c105_ok : cFunc Go.Proofs.Try.prog Go.Proofs.Try.f105 = some c105 := by kernel_rfl
/-- semigroup/combine.automata -/
def c106 : CFunc := ⟨32, [.tmp 4, .tmp 5], (.seq (.reg [op 4 (.move (.c (.slice none 0 0))), op 5 (.move (ci 0))])
 (.seq (.reg [op 6 (.move (.c (.slice none 0 0)))])
 (.seq (.seq (.reg [mv 11 0, op 12 (.lenSl (.t 11)), op 13 (.move (ci 0))])
 (.block 0 (.loop (.seq (.reg [op 14 (.bin .lss (.t 13) (.t 12))])
 (.seq (.cond (.t 14) .skip (.exit 0))
 (.seq (.block 1 (.seq (.reg [op 15 (.iaddr 1 (.t 11) (.t 13)), op 16 (.loadN 1 (.t 15)), op 8 (.alloc 48 [(.slice none 0 0)]), ⟨none, .store 1 (.t 8) (.t 16), none⟩])
 (.seq (.reg [op 18 (.loadN 1 (.t 8)), mv 19 1, op 20 (.call 124 [(.t 18), (.t 19)]), mv 17 20, op 21 (.extract 0 (.t 17)), op 22 (.extract 1 (.t 17)), op 9 (.alloc 32 [(.int .i64 (.ofNat 0)), (.int .i64 (.ofNat 0)), (.slice none 0 0), (.slice none 0 0)]), ⟨none, .store 4 (.t 9) (.t 21), none⟩, mv 10 22])
 (.seq (.seq (.reg [mv 23 10, op 24 (.bin .neq (.t 23) (ci 0))])
 (.cond (.t 24) (.seq (.reg [mv 25 10, op 4 (.move (.c (.slice none 0 0))), mv 5 25])
 .ret) .skip))
 (.reg [mv 26 6, op 27 (.loadN 4 (.t 9)), op 28 (.buildSlice 32 4 1 [(.int .i64 (.ofNat 0)), (.int .i64 (.ofNat 0)), (.slice none 0 0), (.slice none 0 0)] [(0, (.t 27))]), op 29 (.append 32 4 64 (.t 26) (.t 28)), mv 6 29])))))
 (.reg [op 30 (.bin .add (.t 13) (ci 1)), mv 13 30])))))))
 (.seq (.reg [mv 31 6, mv 4 31, op 5 (.move (ci 0))])
 .ret))))⟩
theorem c106_ok : cFunc Go.Proofs.Try.prog Go.Proofs.Try.f106 = some c106 := by kernel_rfl
/-- semigroup/combine.multiply -/
def c107 : CFunc := ⟨134, [.cells 4 4, .tmp 5], (.seq (.reg [op 4 (.alloc 149 [(.slice none 0 0), (.slice none 0 0), (.slice none 0 0), (.slice none 0 0)]), op 5 (.move (.c (.bool false)))])
 (.seq (.reg [op 6 (.move (.c (.slice none 0 0)))])
 (.seq (.seq (.reg [mv 19 0, op 20 (.lenSl (.t 19)), op 21 (.move (ci 0))])
 (.block 0 (.loop (.seq (.reg [op 22 (.bin .lss (.t 21) (.t 20))])
 (.seq (.cond (.t 22) .skip (.exit 0))
 (.seq (.block 1 (.seq (.reg [op 23 (.iaddr 4 (.t 19) (.t 21)), op 24 (.loadN 4 (.t 23)), op 8 (.alloc 32 [(.int .i64 (.ofNat 0)), (.int .i64 (.ofNat 0)), (.slice none 0 0), (.slice none 0 0)]), ⟨none, .store 4 (.t 8) (.t 24), none⟩])
 (.reg [mv 25 6, op 26 (.faddr 1 (.t 8)), op 27 (.load (.t 26)), op 28 (.buildSlice 3 1 1 [(.int .i64 (.ofNat 0))] [(0, (.t 27))]), op 29 (.append 3 1 8 (.t 25) (.t 28)), mv 6 29])))
 (.reg [op 30 (.bin .add (.t 21) (ci 1)), mv 21 30])))))))
 (.seq (.reg [mv 31 6, op 32 (.buildSlice 22 1 1 [(.slice none 0 0)] [(0, (.t 31))]), op 33 (.buildSlice 3 1 1 [(.int .i64 (.ofNat 0))] [(0, (.c (.int .i64 (.negSucc 0))))]), op 34 (.buildSlice 3 1 1 [(.int .i64 (.ofNat 0))] [(0, (ci 0))]), op 35 (.build [(.slice none 0 0), (.slice none 0 0), (.slice none 0 0), (.slice none 0 0)] [(0, 1, (.t 32)), (2, 1, (.t 33)), (3, 1, (.t 34))]), op 9 (.alloc 149 [(.slice none 0 0), (.slice none 0 0), (.slice none 0 0), (.slice none 0 0)]), ⟨none, .store 4 (.t 9) (.t 35), none⟩])
 (.seq (.reg [op 36 (.mkMap), mv 37 6, op 38 (.call 125 [(.t 37)]), ⟨none, .mapSet (.one .str) (.t 36) (.t 38) (ci 0), none⟩, mv 39 36, mv 10 39])
 (.seq (.seq (.reg [op 11 (.move (ci 0))])
 (.block 2 (.loop (.seq (.seq (.reg [mv 40 11, op 41 (.faddr 0 (.t 9)), op 42 (.load (.t 41)), op 43 (.lenSl (.t 42)), op 44 (.bin .lss (.t 40) (.t 43))])
 (.cond (.t 44) .skip (.exit 2)))
 (.seq (.block 3 (.seq (.reg [mv 47 1, op 48 (.mkSlice 3 8 1 [(.int .i64 (.ofNat 0))] (.t 47) (.t 47)), mv 12 48])
 (.seq (.seq (.reg [mv 49 12, op 50 (.lenSl (.t 49)), op 51 (.move (ci 0))])
 (.block 4 (.loop (.seq (.reg [op 52 (.bin .lss (.t 51) (.t 50))])
 (.seq (.cond (.t 52) .skip (.exit 4))
 (.seq (.block 5 (.seq (.reg [mv 53 51, mv 13 53])
 (.seq (.reg [mv 54 0, op 55 (.lenSl (.t 54)), op 56 (.mkSlice 3 8 1 [(.int .i64 (.ofNat 0))] (.t 55) (.t 55)), mv 14 56])
 (.seq (.seq (.reg [mv 57 0, op 58 (.lenSl (.t 57)), op 59 (.move (ci 0))])
 (.block 6 (.loop (.seq (.reg [op 60 (.bin .lss (.t 59) (.t 58))])
 (.seq (.cond (.t 60) .skip (.exit 6))
 (.seq (.block 7 (.seq (.reg [mv 61 59, op 62 (.iaddr 4 (.t 57) (.t 59)), op 63 (.loadN 4 (.t 62)), op 16 (.alloc 32 [(.int .i64 (.ofNat 0)), (.int .i64 (.ofNat 0)), (.slice none 0 0), (.slice none 0 0)]), mv 15 61, ⟨none, .store 4 (.t 16) (.t 63), none⟩])
 (.draw [(mv 64 14, 0), (mv 65 15, 0), (op 66 (.faddr 3 (.t 16)), 0), (op 67 (.load (.t 66)), 0), (op 68 (.faddr 0 (.t 9)), 0), (op 69 (.load (.t 68)), 0), (mv 70 11, 0), (op 71 (.iaddr 1 (.t 69) (.t 70)), 0), (op 72 (.load (.t 71)), 0), (mv 73 15, 0), (op 74 (.iaddr 1 (.t 72) (.t 73)), 0), (op 75 (.load (.t 74)), 0), (op 76 (.iaddr 1 (.t 67) (.t 75)), 0), (op 77 (.load (.t 76)), 0), (mv 78 13, 0), (op 79 (.iaddr 1 (.t 77) (.t 78)), 0), (op 80 (.load (.t 79)), 0), (op 81 (.iaddr 1 (.t 64) (.t 65)), 0), (⟨none, .store 1 (.t 81) (.t 80), none⟩, 1)])))
 (.reg [op 82 (.bin .add (.t 59) (ci 1)), mv 59 82])))))))
 (.seq (.reg [mv 84 10, mv 85 14, op 86 (.call 125 [(.t 85)]), op 87 (.lookup (.one .str) (.int .i64 (.ofNat 0)) true (.t 84) (.t 86)), mv 83 87, op 88 (.extract 0 (.t 83)), op 89 (.extract 1 (.t 83)), mv 17 88, mv 18 89])
 (.seq (.seq (.reg [mv 90 18, op 91 (.not (.t 90))])
 (.cond (.t 91) (.seq (.seq (.reg [op 92 (.faddr 0 (.t 9)), op 93 (.load (.t 92)), op 94 (.lenSl (.t 93)), op 95 (.bin .eql (.t 94) (ci 4000))])
 (.cond (.t 95) (.seq (.reg [op 96 (.build [(.slice none 0 0), (.slice none 0 0), (.slice none 0 0), (.slice none 0 0)] []), ⟨none, .store 4 (.t 4) (.t 96), none⟩, op 5 (.move (.c (.bool false)))])
 .ret) .skip))
 (.seq (.reg [op 97 (.faddr 0 (.t 9)), op 98 (.load (.t 97)), op 99 (.lenSl (.t 98)), mv 17 99])
 (.seq (.reg [mv 100 10, mv 101 14, op 102 (.call 125 [(.t 101)]), mv 103 17, ⟨none, .mapSet (.one .str) (.t 100) (.t 102) (.t 103), none⟩])
 (.seq (.reg [op 104 (.faddr 0 (.t 9)), op 105 (.load (.t 104)), mv 106 14, op 107 (.buildSlice 22 1 1 [(.slice none 0 0)] [(0, (.t 106))]), op 108 (.append 22 1 24 (.t 105) (.t 107)), op 109 (.faddr 0 (.t 9)), ⟨none, .store 1 (.t 109) (.t 108), none⟩])
 (.seq (.reg [op 110 (.faddr 2 (.t 9)), op 111 (.load (.t 110)), mv 112 11, op 113 (.buildSlice 3 1 1 [(.int .i64 (.ofNat 0))] [(0, (.t 112))]), op 114 (.append 3 1 8 (.t 111) (.t 113)), op 115 (.faddr 2 (.t 9)), ⟨none, .store 1 (.t 115) (.t 114), none⟩])
 (.reg [op 116 (.faddr 3 (.t 9)), op 117 (.load (.t 116)), mv 118 13, op 119 (.buildSlice 3 1 1 [(.int .i64 (.ofNat 0))] [(0, (.t 118))]), op 120 (.append 3 1 8 (.t 117) (.t 119)), op 121 (.faddr 3 (.t 9)), ⟨none, .store 1 (.t 121) (.t 120), none⟩])))))) .skip))
 (.reg [mv 122 12, mv 123 13, mv 124 17, op 125 (.iaddr 1 (.t 122) (.t 123)), ⟨none, .store 1 (.t 125) (.t 124), none⟩])))))))
 (.reg [op 126 (.bin .add (.t 51) (ci 1)), mv 51 126])))))))
 (.reg [op 127 (.faddr 1 (.t 9)), op 128 (.load (.t 127)), mv 129 12, op 130 (.buildSlice 22 1 1 [(.slice none 0 0)] [(0, (.t 129))]), op 131 (.append 22 1 24 (.t 128) (.t 130)), op 132 (.faddr 1 (.t 9)), ⟨none, .store 1 (.t 132) (.t 131), none⟩]))))
 (.reg [mv 45 11, op 46 (.bin .add (.t 45) (ci 1)), mv 11 46]))))))
 (.seq (.reg [op 133 (.loadN 4 (.t 9)), ⟨none, .store 4 (.t 4) (.t 133), none⟩, op 5 (.move (.c (.bool true)))])
 .ret)))))))⟩
theorem c107_ok : cFunc Go.Proofs.Try.prog Go.Proofs.Try.f107 = some c107 := by kernel_rfl
/-- (semigroup/combine.product).word -/
def c108 : CFunc := ⟨54, [.tmp 4], (.seq (.reg [op 2 (.box 149 (.t 0)), op 4 (.move (.c (.string ⟨⟨[]⟩⟩)))])
 (.seq (.reg [op 5 (.move (.c (.slice none 0 0)))])
 (.seq (.block 0 (.loop (.seq (.seq (.reg [op 8 (.faddr 2 (.t 2)), op 9 (.load (.t 8)), mv 10 1, op 11 (.iaddr 1 (.t 9) (.t 10)), op 12 (.load (.t 11)), op 13 (.bin .geq (.t 12) (ci 0))])
 (.cond (.t 13) .skip (.exit 0)))
 (.seq (.block 1 (.reg [mv 19 5, op 20 (.faddr 3 (.t 2)), op 21 (.load (.t 20)), mv 22 1, op 23 (.iaddr 1 (.t 21) (.t 22)), op 24 (.load (.t 23)), op 25 (.idxStr (.c (.string ⟨⟨[97, 98, 99, 100, 101, 102, 103, 104, 105, 106, 107, 108, 109, 110, 111, 112, 113, 114, 115, 116, 117, 118, 119, 120, 121, 122]⟩⟩)) (.t 24)), op 26 (.buildSlice 5 1 1 [(.int .u8 (.ofNat 0))] [(0, (.t 25))]), op 27 (.append 5 1 1 (.t 19) (.t 26)), mv 5 27]))
 (.reg [op 14 (.faddr 2 (.t 2)), op 15 (.load (.t 14)), mv 16 1, op 17 (.iaddr 1 (.t 15) (.t 16)), op 18 (.load (.t 17)), mv 1 18])))))
 (.seq (.seq (.reg [mv 28 5, op 29 (.lenSl (.t 28)), op 30 (.bin .sub (.t 29) (ci 1)), op 6 (.move (ci 0)), mv 7 30])
 (.block 2 (.loop (.seq (.seq (.reg [mv 31 6, mv 32 7, op 33 (.bin .lss (.t 31) (.t 32))])
 (.cond (.t 33) .skip (.exit 2)))
 (.seq (.block 3 (.draw [(mv 38 5, 0), (mv 39 6, 0), (mv 40 5, 1), (mv 41 7, 1), (mv 42 5, 0), (mv 43 7, 0), (op 44 (.iaddr 1 (.t 42) (.t 43)), 0), (op 45 (.load (.t 44)), 0), (mv 46 5, 0), (mv 47 6, 0), (op 48 (.iaddr 1 (.t 46) (.t 47)), 0), (op 49 (.load (.t 48)), 0), (op 50 (.iaddr 1 (.t 38) (.t 39)), 0), (⟨none, .store 1 (.t 50) (.t 45), none⟩, 1), (op 51 (.iaddr 1 (.t 40) (.t 41)), 1), (⟨none, .store 1 (.t 51) (.t 49), none⟩, 2)]))
 (.reg [mv 34 6, op 35 (.bin .add (.t 34) (ci 1)), mv 36 7, op 37 (.bin .sub (.t 36) (ci 1)), mv 6 35, mv 7 37]))))))
 (.seq (.reg [mv 52 5, op 53 (.strOf (.t 52)), mv 4 53])
 .ret)))))⟩
theorem c108_ok : cFunc Go.Proofs.Try.prog Go.Proofs.Try.f108 = some c108 := by kernel_rfl
/-- (*semigroup/combine.maker).build -/
def c109 : CFunc := ⟨100, [.tmp 6], (.seq (.reg [op 6 (.move (ci 0))])
 (.seq (.reg [op 7 (.move (.c (.bool false))), op 8 (.move (.c (.bool false)))])
 (.seq (.seq (.reg [mv 17 1, op 18 (.lenSl (.t 17)), op 19 (.move (ci 0))])
 (.block 0 (.loop (.seq (.reg [op 20 (.bin .lss (.t 19) (.t 18))])
 (.seq (.cond (.t 20) .skip (.exit 0))
 (.seq (.block 1 (.seq (.reg [op 21 (.iaddr 5 (.t 17) (.t 19)), op 22 (.loadN 5 (.t 21)), op 10 (.alloc 154 [(.slice none 0 0), (.bool false), (.bool false), (.int .i64 (.ofNat 0)), (.int .i64 (.ofNat 0))]), ⟨none, .store 5 (.t 10) (.t 22), none⟩])
 (.draw [(mv 23 7, 0), (mv 24 23, 0), (gf 25 (.faddr 1 (.t 10)) 24, 0), (gf 26 (.load (.t 25)) 24, 0), (op 27 (.pick (.t 24) (.c (.bool true)) (.t 26)), 0), (mv 28 8, 0), (mv 29 28, 0), (gf 30 (.faddr 2 (.t 10)) 29, 0), (gf 31 (.load (.t 30)) 29, 0), (op 32 (.pick (.t 29) (.c (.bool true)) (.t 31)), 0), (mv 7 27, 0), (mv 8 32, 0)])))
 (.reg [op 33 (.bin .add (.t 19) (ci 1)), mv 19 33])))))))
 (.seq (.seq (.reg [mv 34 7, op 35 (.not (.t 34))])
 (.cond (.t 35) (.seq (.reg [op 6 (.move (ci 0))])
 .ret) .skip))
 (.seq (.seq (.reg [mv 36 8, op 37 (.not (.t 36))])
 (.cond (.t 37) (.seq (.reg [op 6 (.move (ci 1))])
 .ret) .skip))
 (.block 2 (.loop (.seq (.block 3 (.seq (.reg [op 11 (.move (.c (.slice none 0 0))), op 12 (.move (.c (.slice none 0 0)))])
 (.seq (.seq (.reg [mv 40 1, op 41 (.lenSl (.t 40)), op 42 (.move (ci 0))])
 (.block 4 (.loop (.seq (.reg [op 43 (.bin .lss (.t 42) (.t 41))])
 (.seq (.cond (.t 43) .skip (.exit 4))
 (.seq (.block 5 (.seq (.reg [op 44 (.iaddr 5 (.t 40) (.t 42)), op 45 (.loadN 5 (.t 44)), op 14 (.alloc 154 [(.slice none 0 0), (.bool false), (.bool false), (.int .i64 (.ofNat 0)), (.int .i64 (.ofNat 0))]), ⟨none, .store 5 (.t 14) (.t 45), none⟩])
 (.seq (.reg [op 46 (.faddr 0 (.t 14)), op 47 (.load (.t 46)), mv 48 2, op 49 (.iaddr 1 (.t 47) (.t 48)), op 50 (.load (.t 49))])
 (.cond (.t 50) (.reg [mv 51 11, op 52 (.loadN 5 (.t 14)), op 53 (.buildSlice 154 5 1 [(.slice none 0 0), (.bool false), (.bool false), (.int .i64 (.ofNat 0)), (.int .i64 (.ofNat 0))] [(0, (.t 52))]), op 54 (.append 154 5 48 (.t 51) (.t 53)), mv 11 54]) (.reg [mv 55 12, op 56 (.loadN 5 (.t 14)), op 57 (.buildSlice 154 5 1 [(.slice none 0 0), (.bool false), (.bool false), (.int .i64 (.ofNat 0)), (.int .i64 (.ofNat 0))] [(0, (.t 56))]), op 58 (.append 154 5 48 (.t 55) (.t 57)), mv 12 58])))))
 (.reg [op 59 (.bin .add (.t 42) (ci 1)), mv 42 59])))))))
 (.seq (.reg [mv 60 11, op 61 (.lenSl (.t 60)), op 62 (.bin .gtr (.t 61) (ci 0)), mv 63 62, gt 64 (.move (.t 12)) 63, gt 65 (.lenSl (.t 64)) 63, gt 66 (.bin .gtr (.t 65) (ci 0)) 63, op 67 (.pick (.t 63) (.t 66) (.c (.bool false)))])
 (.cond (.t 67) (.seq (.reg [mv 68 0, mv 69 11, mv 70 2, op 71 (.bin .add (.t 70) (ci 1)), op 72 (.call 109 [(.t 68), (.t 69), (.t 71)]), mv 73 0, mv 74 12, mv 75 2, op 76 (.bin .add (.t 75) (ci 1)), op 77 (.call 109 [(.t 73), (.t 74), (.t 76)]), mv 15 72, mv 16 77])
 (.seq (.reg [mv 78 0, mv 79 0, op 80 (.nilCheck (.t 79)), op 81 (.faddr 0 (.t 80)), op 82 (.faddr 1 (.t 81)), op 83 (.load (.t 82)), mv 84 2, mv 85 15, mv 86 16, op 87 (.build [(.int .i64 (.ofNat 0)), (.int .i64 (.ofNat 0)), (.int .i64 (.ofNat 0))] [(0, 1, (.t 84)), (1, 1, (.t 85)), (2, 1, (.t 86))]), op 88 (.buildSlice 89 3 1 [(.int .i64 (.ofNat 0)), (.int .i64 (.ofNat 0)), (.int .i64 (.ofNat 0))] [(0, (.t 87))]), op 89 (.append 89 3 24 (.t 83) (.t 88)), op 90 (.nilCheck (.t 78)), op 91 (.faddr 0 (.t 90)), op 92 (.faddr 1 (.t 91)), ⟨none, .store 1 (.t 92) (.t 89), none⟩])
 (.seq (.reg [mv 93 0, op 94 (.nilCheck (.t 93)), op 95 (.faddr 0 (.t 94)), op 96 (.faddr 1 (.t 95)), op 97 (.load (.t 96)), op 98 (.lenSl (.t 97)), op 99 (.bin .add (ci 1) (.t 98)), mv 6 99])
 .ret))) .skip)))))
 (.reg [mv 38 2, op 39 (.bin .add (.t 38) (ci 1)), mv 2 39])))))))))⟩
theorem c109_ok : cFunc Go.Proofs.Try.prog Go.Proofs.Try.f109 = some c109 := by kernel_rfl
/-- semigroup/dfa.Trim -/
def c121 : CFunc := ⟨75, [.cells 4 2, .tmp 3], (.seq (.reg [op 1 (.box 32 (.t 0)), op 2 (.alloc 32 [(.int .i64 (.ofNat 0)), (.int .i64 (.ofNat 0)), (.slice none 0 0), (.slice none 0 0)]), op 3 (.move (.c (.slice none 0 0)))])
 (.seq (.seq (.reg [op 13 (.loadN 4 (.t 1)), op 14 (.call 75 [(.t 13)]), op 15 (.bin .neq (.t 14) (ci 0))])
 (.cond (.t 15) (.seq (.reg [op 16 (.build [(.int .i64 (.ofNat 0)), (.int .i64 (.ofNat 0)), (.slice none 0 0), (.slice none 0 0)] []), ⟨none, .store 4 (.t 2) (.t 16), none⟩, op 3 (.move (.c (.slice none 0 0)))])
 .ret) .skip))
 (.seq (.reg [op 18 (.loadN 4 (.t 1)), op 19 (.call 139 [(.t 18)]), mv 17 19, op 20 (.extract 0 (.t 17)), op 21 (.extract 1 (.t 17)), op 22 (.extract 2 (.t 17)), op 23 (.extract 3 (.t 17)), mv 4 20, mv 5 21, mv 6 22, mv 7 23])
 (.seq (.reg [op 24 (.faddr 0 (.t 1)), op 25 (.load (.t 24)), op 26 (.build [(.int .i64 (.ofNat 0)), (.int .i64 (.ofNat 0)), (.slice none 0 0), (.slice none 0 0)] [(0, 1, (.t 25))]), op 8 (.alloc 32 [(.int .i64 (.ofNat 0)), (.int .i64 (.ofNat 0)), (.slice none 0 0), (.slice none 0 0)]), ⟨none, .store 4 (.t 8) (.t 26), none⟩])
 (.seq (.seq (.reg [mv 27 4, op 28 (.lenSl (.t 27)), op 29 (.move (ci 0))])
 (.block 0 (.loop (.seq (.reg [op 30 (.bin .lss (.t 29) (.t 28))])
 (.seq (.cond (.t 30) .skip (.exit 0))
 (.seq (.block 1 (.seq (.reg [op 31 (.iaddr 1 (.t 27) (.t 29)), op 32 (.load (.t 31)), mv 10 32])
 (.seq (.reg [op 33 (.faddr 0 (.t 1)), op 34 (.load (.t 33)), op 35 (.mkSlice 3 8 1 [(.int .i64 (.ofNat 0))] (.t 34) (.t 34)), mv 11 35])
 (.seq (.seq (.reg [mv 36 11, op 37 (.lenSl (.t 36)), op 38 (.move (ci 0))])
 (.block 2 (.loop (.seq (.reg [op 39 (.bin .lss (.t 38) (.t 37))])
 (.seq (.cond (.t 39) .skip (.exit 2))
 (.seq (.block 3 (.seq (.reg [mv 40 38, mv 12 40])
 (.reg [mv 41 11, mv 42 12, mv 43 7, op 44 (.faddr 3 (.t 1)), op 45 (.load (.t 44)), mv 46 10, op 47 (.iaddr 1 (.t 45) (.t 46)), op 48 (.load (.t 47)), mv 49 12, op 50 (.iaddr 1 (.t 48) (.t 49)), op 51 (.load (.t 50)), op 52 (.iaddr 1 (.t 43) (.t 51)), op 53 (.load (.t 52)), op 54 (.iaddr 1 (.t 41) (.t 42)), ⟨none, .store 1 (.t 54) (.t 53), none⟩])))
 (.reg [op 55 (.bin .add (.t 38) (ci 1)), mv 38 55])))))))
 (.seq (.draw [(op 56 (.faddr 2 (.t 8)), 0), (op 57 (.load (.t 56)), 0), (op 58 (.faddr 2 (.t 1)), 0), (op 59 (.load (.t 58)), 0), (mv 60 10, 0), (op 61 (.iaddr 1 (.t 59) (.t 60)), 0), (op 62 (.load (.t 61)), 0), (op 63 (.buildSlice 4 1 1 [(.bool false)] [(0, (.t 62))]), 0), (op 64 (.append 4 1 1 (.t 57) (.t 63)), 1), (op 65 (.faddr 2 (.t 8)), 1), (⟨none, .store 1 (.t 65) (.t 64), none⟩, 2)])
 (.reg [op 66 (.faddr 3 (.t 8)), op 67 (.load (.t 66)), mv 68 11, op 69 (.buildSlice 22 1 1 [(.slice none 0 0)] [(0, (.t 68))]), op 70 (.append 22 1 24 (.t 67) (.t 69)), op 71 (.faddr 3 (.t 8)), ⟨none, .store 1 (.t 71) (.t 70), none⟩]))))))
 (.reg [op 72 (.bin .add (.t 29) (ci 1)), mv 29 72])))))))
 (.seq (.reg [op 73 (.loadN 4 (.t 8)), mv 74 7, ⟨none, .store 4 (.t 2) (.t 73), none⟩, mv 3 74])
 .ret))))))⟩
theorem c121_ok : cFunc Go.Proofs.Try.prog Go.Proofs.Try.f121 = some c121 := by kernel_rfl
/-- semigroup/minimize.classes -/
def c122 : CFunc := ⟨92, [.tmp 2], (.seq (.reg [op 1 (.box 32 (.t 0)), op 2 (.move (.c (.slice none 0 0)))])
 (.seq (.reg [op 14 (.faddr 2 (.t 1)), op 15 (.load (.t 14)), op 16 (.lenSl (.t 15)), mv 3 16])
 (.seq (.reg [mv 17 3, op 18 (.mkSlice 3 8 1 [(.int .i64 (.ofNat 0))] (.t 17) (.t 17)), mv 4 18])
 (.seq (.seq (.reg [mv 19 4, op 20 (.lenSl (.t 19)), op 21 (.move (ci 0))])
 (.block 0 (.loop (.seq (.reg [op 22 (.bin .lss (.t 21) (.t 20))])
 (.seq (.cond (.t 22) .skip (.exit 0))
 (.seq (.block 1 (.seq (.reg [mv 23 21, mv 5 23])
 (.seq (.reg [op 24 (.faddr 2 (.t 1)), op 25 (.load (.t 24)), mv 26 5, op 27 (.iaddr 1 (.t 25) (.t 26)), op 28 (.load (.t 27))])
 (.cond (.t 28) (.reg [mv 29 4, mv 30 5, op 31 (.iaddr 1 (.t 29) (.t 30)), ⟨none, .store 1 (.t 31) (ci 1), none⟩]) .skip))))
 (.reg [op 32 (.bin .add (.t 21) (ci 1)), mv 21 32])))))))
 (.seq (.reg [mv 33 4, op 34 (.call 140 [(.t 33)]), mv 4 34])
 (.block 2 (.loop (.block 3 (.seq (.reg [op 35 (.mkMap), mv 6 35])
 (.seq (.reg [mv 36 3, op 37 (.mkSlice 3 8 1 [(.int .i64 (.ofNat 0))] (.t 36) (.t 36)), mv 7 37])
 (.seq (.seq (.reg [mv 38 7, op 39 (.lenSl (.t 38)), op 40 (.move (ci 0))])
 (.block 4 (.loop (.seq (.reg [op 41 (.bin .lss (.t 40) (.t 39))])
 (.seq (.cond (.t 41) .skip (.exit 4))
 (.seq (.block 5 (.seq (.reg [mv 42 40, mv 8 42])
 (.seq (.reg [op 9 (.alloc 192 [(.int .i64 (.ofNat 0)), (.int .i64 (.ofNat 0)), (.int .i64 (.ofNat 0)), (.int .i64 (.ofNat 0)), (.int .i64 (.ofNat 0)), (.int .i64 (.ofNat 0)), (.int .i64 (.ofNat 0))])])
 (.seq (.reg [mv 43 4, mv 44 8, op 45 (.iaddr 1 (.t 43) (.t 44)), op 46 (.load (.t 45)), op 47 (.iaddrA 7 1 (.t 9) (ci 0)), ⟨none, .store 1 (.t 47) (.t 46), none⟩])
 (.seq (.seq (.reg [op 48 (.faddr 3 (.t 1)), op 49 (.load (.t 48)), mv 50 8, op 51 (.iaddr 1 (.t 49) (.t 50)), op 52 (.load (.t 51)), op 53 (.lenSl (.t 52)), op 54 (.move (ci 0))])
 (.block 6 (.loop (.seq (.reg [op 55 (.bin .lss (.t 54) (.t 53))])
 (.seq (.cond (.t 55) .skip (.exit 6))
 (.seq (.block 7 (.seq (.reg [mv 56 54, op 57 (.iaddr 1 (.t 52) (.t 54)), op 58 (.load (.t 57)), mv 10 56, mv 11 58])
 (.reg [mv 59 10, op 60 (.bin .add (.t 59) (ci 1)), mv 61 4, mv 62 11, op 63 (.iaddr 1 (.t 61) (.t 62)), op 64 (.load (.t 63)), op 65 (.iaddrA 7 1 (.t 9) (.t 60)), ⟨none, .store 1 (.t 65) (.t 64), none⟩])))
 (.reg [op 66 (.bin .add (.t 54) (ci 1)), mv 54 66])))))))
 (.seq (.reg [mv 68 6, op 69 (.loadN 7 (.t 9)), op 70 (.lookup (.row [.int, .int, .int, .int, .int, .int, .int]) (.int .i64 (.ofNat 0)) true (.t 68) (.t 69)), mv 67 70, op 71 (.extract 0 (.t 67)), op 72 (.extract 1 (.t 67)), mv 12 71, mv 13 72])
 (.seq (.seq (.reg [mv 73 13, op 74 (.not (.t 73))])
 (.cond (.t 74) (.seq (.reg [mv 75 6, op 76 (.lenMap (.t 75)), mv 12 76])
 (.reg [mv 77 6, op 78 (.loadN 7 (.t 9)), mv 79 12, ⟨none, .mapSet (.row [.int, .int, .int, .int, .int, .int, .int]) (.t 77) (.t 78) (.t 79), none⟩])) .skip))
 (.reg [mv 80 7, mv 81 8, mv 82 12, op 83 (.iaddr 1 (.t 80) (.t 81)), ⟨none, .store 1 (.t 83) (.t 82), none⟩]))))))))
 (.reg [op 84 (.bin .add (.t 40) (ci 1)), mv 40 84])))))))
 (.seq (.seq (.reg [mv 85 6, op 86 (.lenMap (.t 85)), mv 87 4, op 88 (.call 123 [(.t 87)]), op 89 (.bin .eql (.t 86) (.t 88))])
 (.cond (.t 89) (.seq (.reg [mv 90 4, mv 2 90])
 .ret) .skip))
 (.reg [mv 91 7, mv 4 91])))))))))))))⟩
theorem c122_ok : cFunc Go.Proofs.Try.prog Go.Proofs.Try.f122 = some c122 := by kernel_rfl
/-- semigroup/partition.Count -/
def c123 : CFunc := ⟨21, [.tmp 2], (.seq (.reg [op 2 (.move (ci 0))])
 (.seq (.seq (.reg [mv 6 0, op 7 (.call 141 [(.t 6)]), op 8 (.not (.t 7))])
 (.cond (.t 8) (.seq (.reg [op 2 (.move (ci 0))])
 .ret) .skip))
 (.seq (.reg [op 3 (.move (ci 0))])
 (.seq (.seq (.reg [mv 9 0, op 10 (.lenSl (.t 9)), op 11 (.move (ci 0))])
 (.block 0 (.loop (.seq (.reg [op 12 (.bin .lss (.t 11) (.t 10))])
 (.seq (.cond (.t 12) .skip (.exit 0))
 (.seq (.block 1 (.seq (.reg [op 13 (.iaddr 1 (.t 9) (.t 11)), op 14 (.load (.t 13)), mv 5 14])
 (.reg [mv 15 3, mv 16 5, op 17 (.bin .add (.t 16) (ci 1)), op 18 (.most false (.t 15) (.t 17)), mv 3 18])))
 (.reg [op 19 (.bin .add (.t 11) (ci 1)), mv 11 19])))))))
 (.seq (.reg [mv 20 3, mv 2 20])
 .ret)))))⟩
theorem c123_ok : cFunc Go.Proofs.Try.prog Go.Proofs.Try.f123 = some c123 := by kernel_rfl
/-- semigroup/pattern.Dfa -/
def c124 : CFunc := ⟨37, [.cells 4 4, .tmp 5], (.seq (.reg [op 2 (.box 48 (.t 0)), op 4 (.alloc 32 [(.int .i64 (.ofNat 0)), (.int .i64 (.ofNat 0)), (.slice none 0 0), (.slice none 0 0)]), op 5 (.move (ci 0))])
 (.seq (.seq (.reg [op 10 (.loadN 1 (.t 2)), mv 11 1, op 12 (.call 48 [(.t 10), (.t 11)]), mv 6 12])
 (.seq (.reg [mv 13 6, op 14 (.bin .neq (.t 13) (ci 0))])
 (.cond (.t 14) (.seq (.reg [op 15 (.build [(.int .i64 (.ofNat 0)), (.int .i64 (.ofNat 0)), (.slice none 0 0), (.slice none 0 0)] []), mv 16 6, ⟨none, .store 4 (.t 4) (.t 15), none⟩, mv 5 16])
 .ret) .skip)))
 (.seq (.reg [op 17 (.loadN 1 (.t 2)), op 18 (.call 80 [(.t 17)]), op 7 (.alloc 120 [(.string ⟨⟨[]⟩⟩), (.slice none 0 0)]), ⟨none, .store 2 (.t 7) (.t 18), none⟩])
 (.seq (.draw [(mv 20 1, 1), (op 21 (.loadN 2 (.t 7)), 0), (op 23 (.loadN 2 (.t 7)), 1), (op 24 (.mkFunc 82 [(.t 23)] []), 1), (op 25 (.loadN 2 (.t 7)), 1), (op 26 (.mkFunc 83 [(.t 25)] []), 1), (op 8 (.alloc 66 [(.int .i64 (.ofNat 0)), (.int .i64 (.ofNat 0)), (.slice none 0 0), (.slice none 0 0)]), 2), (op 22 (.call 81 [(.t 21)]), 1), (op 27 (.call 31 [(.t 20), (.t 22), (.t 24), (.t 26)]), 2), (mv 19 27, 2), (op 28 (.extract 0 (.t 19)), 2), (op 29 (.extract 1 (.t 19)), 3), (⟨none, .store 4 (.t 8) (.t 28), none⟩, 3), (mv 9 29, 3)])
 (.seq (.seq (.reg [mv 30 9, op 31 (.not (.t 30))])
 (.cond (.t 31) (.seq (.reg [op 32 (.build [(.int .i64 (.ofNat 0)), (.int .i64 (.ofNat 0)), (.slice none 0 0), (.slice none 0 0)] []), ⟨none, .store 4 (.t 4) (.t 32), none⟩, op 5 (.move (ci 3))])
 .ret) .skip))
 (.seq (.reg [op 33 (.loadN 4 (.t 8)), op 34 (.call 42 [(.t 33)]), op 35 (.extract 0 (.t 34)), op 36 (.extract 1 (.t 34)), ⟨none, .store 4 (.t 4) (.t 35), none⟩, mv 5 36])
 .ret))))))⟩
theorem c124_ok : cFunc Go.Proofs.Try.prog Go.Proofs.Try.f124 = some c124 := by kernel_rfl
/-- semigroup/combine.key -/
def c125 : CFunc := ⟨27, [.tmp 2], (.seq (.reg [op 2 (.move (.c (.string ⟨⟨[]⟩⟩)))])
 (.seq (.reg [mv 6 0, op 7 (.lenSl (.t 6)), op 8 (.bin .mul (ci 2) (.t 7)), op 9 (.mkSlice 5 1 1 [(.int .u8 (.ofNat 0))] (ci 0) (.t 8)), mv 3 9])
 (.seq (.seq (.reg [mv 10 0, op 11 (.lenSl (.t 10)), op 12 (.move (ci 0))])
 (.block 0 (.loop (.seq (.reg [op 13 (.bin .lss (.t 12) (.t 11))])
 (.seq (.cond (.t 13) .skip (.exit 0))
 (.seq (.block 1 (.seq (.reg [op 14 (.iaddr 1 (.t 10) (.t 12)), op 15 (.load (.t 14)), mv 5 15])
 (.reg [mv 16 3, mv 17 5, op 18 (.conv .u8 (.t 17)), mv 19 5, op 20 (.bin .shr (.t 19) (.c (.int .u64 (.ofNat 8)))), op 21 (.conv .u8 (.t 20)), op 22 (.buildSlice 5 1 2 [(.int .u8 (.ofNat 0)), (.int .u8 (.ofNat 0))] [(0, (.t 18)), (1, (.t 21))]), op 23 (.append 5 1 1 (.t 16) (.t 22)), mv 3 23])))
 (.reg [op 24 (.bin .add (.t 12) (ci 1)), mv 12 24])))))))
 (.seq (.reg [mv 25 3, op 26 (.strOf (.t 25)), mv 2 26])
 .ret))))⟩
theorem c125_ok : cFunc Go.Proofs.Try.prog Go.Proofs.Try.f125 = some c125 := by kernel_rfl
/-- semigroup/dfa.search -/
def c139 : CFunc := ⟨79, [.tmp 2, .tmp 3, .tmp 4, .tmp 5], (.seq (.reg [op 1 (.box 32 (.t 0)), op 2 (.move (.c (.slice none 0 0))), op 3 (.move (.c (.slice none 0 0))), op 4 (.move (.c (.slice none 0 0))), op 5 (.move (.c (.slice none 0 0)))])
 (.seq (.reg [op 10 (.faddr 2 (.t 1)), op 11 (.load (.t 10)), op 12 (.lenSl (.t 11)), op 13 (.mkSlice 3 8 1 [(.int .i64 (.ofNat 0))] (.t 12) (.t 12)), mv 5 13])
 (.seq (.seq (.reg [mv 14 5, op 15 (.lenSl (.t 14)), op 16 (.move (ci 0))])
 (.block 0 (.loop (.seq (.reg [op 17 (.bin .lss (.t 16) (.t 15))])
 (.seq (.cond (.t 17) .skip (.exit 0))
 (.seq (.block 1 (.seq (.reg [mv 18 16, mv 6 18])
 (.reg [mv 19 5, mv 20 6, op 21 (.iaddr 1 (.t 19) (.t 20)), ⟨none, .store 1 (.t 21) (.c (.int .i64 (.negSucc 0))), none⟩])))
 (.reg [op 22 (.bin .add (.t 16) (ci 1)), mv 16 22])))))))
 (.seq (.reg [mv 23 5, op 24 (.faddr 1 (.t 1)), op 25 (.load (.t 24)), op 26 (.iaddr 1 (.t 23) (.t 25)), ⟨none, .store 1 (.t 26) (ci 0), none⟩])
 (.seq (.reg [op 27 (.faddr 1 (.t 1)), op 28 (.load (.t 27)), op 29 (.buildSlice 3 1 1 [(.int .i64 (.ofNat 0))] [(0, (.t 28))]), op 30 (.buildSlice 3 1 1 [(.int .i64 (.ofNat 0))] [(0, (.c (.int .i64 (.negSucc 0))))]), op 31 (.buildSlice 3 1 1 [(.int .i64 (.ofNat 0))] [(0, (.c (.int .i64 (.negSucc 0))))]), mv 2 29, mv 3 30, mv 4 31])
 (.seq (.seq (.reg [op 7 (.move (ci 0))])
 (.block 2 (.loop (.seq (.seq (.reg [mv 32 7, mv 33 2, op 34 (.lenSl (.t 33)), op 35 (.bin .lss (.t 32) (.t 34))])
 (.cond (.t 35) .skip (.exit 2)))
 (.seq (.block 3 (.seq (.draw [(op 38 (.faddr 3 (.t 1)), 0), (op 39 (.load (.t 38)), 0), (mv 40 2, 0), (mv 41 7, 0), (op 42 (.iaddr 1 (.t 40) (.t 41)), 0), (op 43 (.load (.t 42)), 0), (op 44 (.iaddr 1 (.t 39) (.t 43)), 0), (op 45 (.load (.t 44)), 0), (op 46 (.lenSl (.t 45)), 0), (op 47 (.move (ci 0)), 0)])
 (.block 4 (.loop (.seq (.reg [op 48 (.bin .lss (.t 47) (.t 46))])
 (.seq (.cond (.t 48) .skip (.exit 4))
 (.seq (.block 5 (.seq (.reg [mv 49 47, op 50 (.iaddr 1 (.t 45) (.t 47)), op 51 (.load (.t 50)), mv 8 49, mv 9 51])
 (.seq (.reg [mv 52 5, mv 53 9, op 54 (.iaddr 1 (.t 52) (.t 53)), op 55 (.load (.t 54)), op 56 (.bin .lss (.t 55) (ci 0))])
 (.cond (.t 56) (.seq (.reg [mv 57 5, mv 58 9, mv 59 2, op 60 (.lenSl (.t 59)), op 61 (.iaddr 1 (.t 57) (.t 58)), ⟨none, .store 1 (.t 61) (.t 60), none⟩])
 (.reg [mv 62 2, mv 63 9, op 64 (.buildSlice 3 1 1 [(.int .i64 (.ofNat 0))] [(0, (.t 63))]), op 65 (.append 3 1 8 (.t 62) (.t 64)), mv 66 3, mv 67 7, op 68 (.buildSlice 3 1 1 [(.int .i64 (.ofNat 0))] [(0, (.t 67))]), op 69 (.append 3 1 8 (.t 66) (.t 68)), mv 70 4, mv 71 8, op 72 (.buildSlice 3 1 1 [(.int .i64 (.ofNat 0))] [(0, (.t 71))]), op 73 (.append 3 1 8 (.t 70) (.t 72)), mv 2 65, mv 3 69, mv 4 73])) .skip))))
 (.reg [op 74 (.bin .add (.t 47) (ci 1)), mv 47 74]))))))))
 (.reg [mv 36 7, op 37 (.bin .add (.t 36) (ci 1)), mv 7 37]))))))
 (.seq (.reg [mv 75 2, mv 76 3, mv 77 4, mv 78 5, mv 2 75, mv 3 76, mv 4 77, mv 5 78])
 .ret)))))))⟩
theorem c139_ok : cFunc Go.Proofs.Try.prog Go.Proofs.Try.f139 = some c139 := by kernel_rfl
/-- semigroup/partition.Canonical -/
def c140 : CFunc := ⟨42, [.tmp 2], (.seq (.reg [op 2 (.move (.c (.slice none 0 0)))])
 (.seq (.seq (.reg [mv 9 0, op 10 (.lenSl (.t 9)), op 11 (.bin .gtr (.t 10) (ci 4096))])
 (.cond (.t 11) (.seq (.reg [op 2 (.move (.c (.slice none 0 0)))])
 .ret) .skip))
 (.seq (.reg [op 12 (.mkMap), mv 3 12])
 (.seq (.reg [mv 13 0, op 14 (.lenSl (.t 13)), op 15 (.mkSlice 3 8 1 [(.int .i64 (.ofNat 0))] (.t 14) (.t 14)), mv 4 15])
 (.seq (.seq (.reg [mv 16 0, op 17 (.lenSl (.t 16)), op 18 (.move (ci 0))])
 (.block 0 (.loop (.seq (.reg [op 19 (.bin .lss (.t 18) (.t 17))])
 (.seq (.cond (.t 19) .skip (.exit 0))
 (.seq (.block 1 (.seq (.reg [mv 20 18, op 21 (.iaddr 1 (.t 16) (.t 18)), op 22 (.load (.t 21)), mv 5 20, mv 6 22])
 (.seq (.reg [mv 24 3, mv 25 6, op 26 (.lookup (.one .int) (.int .i64 (.ofNat 0)) true (.t 24) (.t 25)), mv 23 26, op 27 (.extract 0 (.t 23)), op 28 (.extract 1 (.t 23)), mv 7 27, mv 8 28])
 (.seq (.seq (.reg [mv 29 8, op 30 (.not (.t 29))])
 (.cond (.t 30) (.seq (.reg [mv 31 3, op 32 (.lenMap (.t 31)), mv 7 32])
 (.reg [mv 33 3, mv 34 6, mv 35 7, ⟨none, .mapSet (.one .int) (.t 33) (.t 34) (.t 35), none⟩])) .skip))
 (.reg [mv 36 4, mv 37 5, mv 38 7, op 39 (.iaddr 1 (.t 36) (.t 37)), ⟨none, .store 1 (.t 39) (.t 38), none⟩])))))
 (.reg [op 40 (.bin .add (.t 18) (ci 1)), mv 18 40])))))))
 (.seq (.reg [mv 41 4, mv 2 41])
 .ret))))))⟩
theorem c140_ok : cFunc Go.Proofs.Try.prog Go.Proofs.Try.f140 = some c140 := by kernel_rfl
/-- semigroup/partition.Valid -/
def c141 : CFunc := ⟨28, [.tmp 2], (.seq (.reg [op 2 (.move (.c (.bool false)))])
 (.seq (.seq (.reg [mv 6 0, op 7 (.lenSl (.t 6)), op 8 (.bin .gtr (.t 7) (ci 4096))])
 (.cond (.t 8) (.seq (.reg [op 2 (.move (.c (.bool false)))])
 .ret) .skip))
 (.seq (.reg [op 3 (.move (ci 0))])
 (.seq (.seq (.reg [mv 9 0, op 10 (.lenSl (.t 9)), op 11 (.move (ci 0))])
 (.block 0 (.loop (.seq (.reg [op 12 (.bin .lss (.t 11) (.t 10))])
 (.seq (.cond (.t 12) .skip (.exit 0))
 (.seq (.block 1 (.seq (.reg [op 13 (.iaddr 1 (.t 9) (.t 11)), op 14 (.load (.t 13)), mv 5 14])
 (.seq (.seq (.reg [mv 15 5, op 16 (.bin .lss (.t 15) (ci 0)), mv 17 16, gf 18 (.move (.t 5)) 17, gf 19 (.move (.t 3)) 17, gf 20 (.bin .gtr (.t 18) (.t 19)) 17, op 21 (.pick (.t 17) (.c (.bool true)) (.t 20))])
 (.cond (.t 21) (.seq (.reg [op 2 (.move (.c (.bool false)))])
 .ret) .skip))
 (.seq (.reg [mv 22 5, mv 23 3, op 24 (.bin .eql (.t 22) (.t 23))])
 (.cond (.t 24) (.reg [mv 25 3, op 26 (.bin .add (.t 25) (ci 1)), mv 3 26]) .skip)))))
 (.reg [op 27 (.bin .add (.t 11) (ci 1)), mv 11 27])))))))
 (.seq (.reg [op 2 (.move (.c (.bool true)))])
 .ret)))))⟩
theorem c141_ok : cFunc Go.Proofs.Try.prog Go.Proofs.Try.f141 = some c141 := by kernel_rfl
def cprog : Nat → Option CFunc
  | 16 => some c16
  | 18 => some c18
  | 20 => some c20
  | 31 => some c31
  | 38 => some c38
  | 42 => some c42
  | 44 => some c44
  | 48 => some c48
  | 49 => some c49
  | 51 => some c51
  | 52 => some c52
  | 53 => some c53
  | 57 => some c57
  | 58 => some c58
  | 59 => some c59
  | 70 => some c70
  | 75 => some c75
  | 78 => some c78
  | 80 => some c80
  | 81 => some c81
  | 82 => some c82
  | 83 => some c83
  | 85 => some c85
  | 86 => some c86
  | 87 => some c87
  | 88 => some c88
  | 89 => some c89
  | 90 => some c90
  | 102 => some c102
  | 103 => some c103
  | 105 => some c105
  | 106 => some c106
  | 107 => some c107
  | 108 => some c108
  | 109 => some c109
  | 121 => some c121
  | 122 => some c122
  | 123 => some c123
  | 124 => some c124
  | 125 => some c125
  | 139 => some c139
  | 140 => some c140
  | 141 => some c141
  | _ => none
theorem cprog_ok : ProgOk Go.Proofs.Try.prog cprog := by
  intro f cf h
  unfold cprog at h
  split at h
  · cases h; exact .inl ⟨_, Go.Proofs.Try.func16, c16_ok, by decide +kernel⟩
  · cases h; exact .inl ⟨_, Go.Proofs.Try.func18, c18_ok, by decide +kernel⟩
  · cases h; exact .inl ⟨_, Go.Proofs.Try.func20, c20_ok, by decide +kernel⟩
  · cases h; exact .inl ⟨_, Go.Proofs.Try.func31, c31_ok, by decide +kernel⟩
  · cases h; exact .inl ⟨_, Go.Proofs.Try.func38, c38_ok, by decide +kernel⟩
  · cases h; exact .inl ⟨_, Go.Proofs.Try.func42, c42_ok, by decide +kernel⟩
  · cases h; exact .inl ⟨_, Go.Proofs.Try.func44, c44_ok, by decide +kernel⟩
  · cases h; exact .inl ⟨_, Go.Proofs.Try.func48, c48_ok, by decide +kernel⟩
  · cases h; exact .inl ⟨_, Go.Proofs.Try.func49, c49_ok, by decide +kernel⟩
  · cases h; exact .inl ⟨_, Go.Proofs.Try.func51, c51_ok, by decide +kernel⟩
  · cases h; exact .inl ⟨_, Go.Proofs.Try.func52, c52_ok, by decide +kernel⟩
  · cases h; exact .inl ⟨_, Go.Proofs.Try.func53, c53_ok, by decide +kernel⟩
  · cases h; exact .inl ⟨_, Go.Proofs.Try.func57, c57_ok, by decide +kernel⟩
  · cases h; exact .inl ⟨_, Go.Proofs.Try.func58, c58_ok, by decide +kernel⟩
  · cases h; exact .inl ⟨_, Go.Proofs.Try.func59, c59_ok, by decide +kernel⟩
  · cases h; exact .inl ⟨_, Go.Proofs.Try.func70, c70_ok, by decide +kernel⟩
  · cases h; exact .inl ⟨_, Go.Proofs.Try.func75, c75_ok, by decide +kernel⟩
  · cases h; exact .inl ⟨_, Go.Proofs.Try.func78, c78_ok, by decide +kernel⟩
  · cases h; exact .inl ⟨_, Go.Proofs.Try.func80, c80_ok, by decide +kernel⟩
  · cases h; exact .inl ⟨_, Go.Proofs.Try.func81, c81_ok, by decide +kernel⟩
  · cases h; exact .inl ⟨_, Go.Proofs.Try.func82, c82_ok, by decide +kernel⟩
  · cases h; exact .inl ⟨_, Go.Proofs.Try.func83, c83_ok, by decide +kernel⟩
  · cases h; exact .inl ⟨_, Go.Proofs.Try.func85, c85_ok, by decide +kernel⟩
  · cases h; exact .inl ⟨_, Go.Proofs.Try.func86, c86_ok, by decide +kernel⟩
  · cases h; exact .inl ⟨_, Go.Proofs.Try.func87, c87_ok, by decide +kernel⟩
  · cases h; exact .inl ⟨_, Go.Proofs.Try.func88, c88_ok, by decide +kernel⟩
  · cases h; exact .inl ⟨_, Go.Proofs.Try.func89, c89_ok, by decide +kernel⟩
  · cases h; exact .inl ⟨_, Go.Proofs.Try.func90, c90_ok, by decide +kernel⟩
  · cases h; exact .inl ⟨_, Go.Proofs.Try.func102, c102_ok, by decide +kernel⟩
  · cases h; exact .inl ⟨_, Go.Proofs.Try.func103, c103_ok, by decide +kernel⟩
  · cases h; exact .inl ⟨_, Go.Proofs.Try.func105, c105_ok, by decide +kernel⟩
  · cases h; exact .inl ⟨_, Go.Proofs.Try.func106, c106_ok, by decide +kernel⟩
  · cases h; exact .inl ⟨_, Go.Proofs.Try.func107, c107_ok, by decide +kernel⟩
  · cases h; exact .inl ⟨_, Go.Proofs.Try.func108, c108_ok, by decide +kernel⟩
  · cases h; exact .inl ⟨_, Go.Proofs.Try.func109, c109_ok, by decide +kernel⟩
  · cases h; exact .inl ⟨_, Go.Proofs.Try.func121, c121_ok, by decide +kernel⟩
  · cases h; exact .inl ⟨_, Go.Proofs.Try.func122, c122_ok, by decide +kernel⟩
  · cases h; exact .inl ⟨_, Go.Proofs.Try.func123, c123_ok, by decide +kernel⟩
  · cases h; exact .inl ⟨_, Go.Proofs.Try.func124, c124_ok, by decide +kernel⟩
  · cases h; exact .inl ⟨_, Go.Proofs.Try.func125, c125_ok, by decide +kernel⟩
  · cases h; exact .inl ⟨_, Go.Proofs.Try.func139, c139_ok, by decide +kernel⟩
  · cases h; exact .inl ⟨_, Go.Proofs.Try.func140, c140_ok, by decide +kernel⟩
  · cases h; exact .inl ⟨_, Go.Proofs.Try.func141, c141_ok, by decide +kernel⟩
  · cases h
end Go.Ev.K34
end
