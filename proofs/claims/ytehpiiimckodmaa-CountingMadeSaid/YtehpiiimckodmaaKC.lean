/- The functions that the law CountingMade reaches, as the evaluator reads them. -/
import Derived.Test.YtehpiiimckodmaaProg
import Derived.KernelRfl
import Derived.Test.YtehpiiimckodmaaEv3
set_option linter.unusedVariables false
set_option linter.unusedSimpArgs false
section
namespace Go.EvK
open Go Go.Ev
abbrev n_law37_CountingMade : Nat := 7
def c_law37_CountingMade : CFunc := ⟨79, [.tmp 8], (.seq (.reg [⟨(some 8), .move (.c (.bool false)), none⟩])
  (.seq (.reg [⟨(some 14), .move (.t 0), none⟩, ⟨(some 15), .call 8 [(.t 14)], none⟩, ⟨(some 9), .move (.t 15), none⟩])
  (.seq (.reg [⟨(some 16), .move (.t 9), none⟩, ⟨(some 17), .call 9 [(.t 16), (.c (.int .i64 (.ofNat 2)))], none⟩, ⟨(some 18), .bin .add (.c (.int .i64 (.ofNat 1))) (.t 17), none⟩, ⟨(some 10), .move (.t 18), none⟩])
  (.seq (.reg [⟨(some 19), .move (.t 9), none⟩, ⟨(some 20), .move (.t 10), none⟩, ⟨(some 21), .call 21 [(.t 19), (.t 20)], none⟩, ⟨(some 11), .alloc 53 [(.slice none 0 0), (.slice none 0 0), (.slice none 0 0)], none⟩, ⟨none, .store 3 (.t 11) (.t 21), none⟩])
  (.seq (.reg [⟨(some 22), .move (.t 9), none⟩, ⟨(some 23), .move (.t 10), none⟩, ⟨(some 24), .call 11 [(.t 22), (.t 23), (.c (.int .i64 (.ofNat 14)))], none⟩, ⟨(some 12), .move (.t 24), none⟩])
  (.seq (.seq (.reg [⟨(some 25), .loadN 3 (.t 11), none⟩, ⟨(some 26), .move (.t 12), none⟩, ⟨(some 27), .call 24 [(.t 25), (.t 26)], none⟩, ⟨(some 28), .not (.t 27), none⟩])
  (.cond (.t 28) (.seq (.reg [⟨(some 8), .move (.c (.bool false)), none⟩])
  .ret) .skip))
  (.seq (.reg [⟨(some 29), .move (.t 2), none⟩, ⟨(some 30), .move (.t 10), none⟩, ⟨(some 31), .call 25 [(.t 29), (.t 30)], none⟩, ⟨(some 13), .move (.t 31), none⟩])
  (.seq (.seq (.reg [⟨(some 32), .move (.t 1), none⟩, ⟨(some 33), .call 25 [(.t 32), (.c (.int .i64 (.ofNat 4)))], none⟩])
  (.block 0 (.seq (.reg [⟨(some 35), .bin .eql (.t 33) (.c (.int .i64 (.ofNat 0))), none⟩, ⟨(some 34), .move (.t 35), none⟩])
  (.cond (.t 34) (.reg [⟨(some 36), .faddr 0 (.t 11), none⟩, ⟨(some 37), .load (.t 36), none⟩, ⟨(some 38), .move (.t 13), none⟩, ⟨(some 39), .move (.t 3), none⟩, ⟨(some 40), .iaddr 1 (.t 37) (.t 38), none⟩, ⟨none, .store 1 (.t 40) (.t 39), none⟩]) (.seq (.reg [⟨(some 42), .bin .eql (.t 33) (.c (.int .i64 (.ofNat 1))), none⟩, ⟨(some 41), .move (.t 42), none⟩])
  (.cond (.t 41) (.reg [⟨(some 43), .faddr 1 (.t 11), none⟩, ⟨(some 44), .load (.t 43), none⟩, ⟨(some 45), .move (.t 13), none⟩, ⟨(some 46), .move (.t 3), none⟩, ⟨(some 47), .iaddr 1 (.t 44) (.t 45), none⟩, ⟨none, .store 1 (.t 47) (.t 46), none⟩]) (.seq (.reg [⟨(some 49), .bin .eql (.t 33) (.c (.int .i64 (.ofNat 2))), none⟩, ⟨(some 48), .move (.t 49), none⟩])
  (.cond (.t 48) (.reg [⟨(some 50), .faddr 2 (.t 11), none⟩, ⟨(some 51), .load (.t 50), none⟩, ⟨(some 52), .move (.t 13), none⟩, ⟨(some 53), .slice 1 (.t 51) none (some (.t 52)), none⟩, ⟨(some 54), .faddr 2 (.t 11), none⟩, ⟨none, .store 1 (.t 54) (.t 53), none⟩]) (.seq (.reg [⟨(some 56), .bin .eql (.t 33) (.c (.int .i64 (.ofNat 3))), none⟩, ⟨(some 55), .move (.t 56), none⟩])
  (.cond (.t 55) (.reg [⟨(some 57), .faddr 1 (.t 11), none⟩, ⟨(some 58), .load (.t 57), none⟩, ⟨(some 59), .buildSlice 3 1 1 [(.int .i64 (.ofNat 0))] [(0, (.c (.int .i64 (.ofNat 1))))], none⟩, ⟨(some 60), .append 3 1 8 (.t 58) (.t 59), none⟩, ⟨(some 61), .faddr 1 (.t 11), none⟩, ⟨none, .store 1 (.t 61) (.t 60), none⟩]) .skip))))))))))
  (.seq (.draw [(⟨(some 62), .loadN 3 (.t 11), none⟩, 0), (⟨(some 64), .loadN 3 (.t 11), none⟩, 1), (⟨(some 63), .call 26 [(.t 62)], none⟩, 1), (⟨(some 65), .call 27 [(.t 64)], none⟩, 2), (⟨(some 66), .bin .eql (.t 63) (.t 65), none⟩, 2), (⟨(some 67), .move (.t 66), none⟩, 2), (⟨(some 68), .loadN 3 (.t 11), (some (67, true))⟩, 2), (⟨(some 69), .move (.t 12), (some (67, true))⟩, 2), (⟨(some 71), .loadN 3 (.t 11), (some (67, true))⟩, 3), (⟨(some 72), .move (.t 12), (some (67, true))⟩, 3), (⟨(some 70), .call 22 [(.t 68), (.t 69)], (some (67, true))⟩, 3), (⟨(some 73), .call 28 [(.t 71), (.t 72)], (some (67, true))⟩, 4), (⟨(some 74), .eqB false (.t 70) (.t 73), (some (67, true))⟩, 4), (⟨(some 75), .pick (.t 67) (.t 74) (.c (.bool false)), none⟩, 4), (⟨(some 76), .move (.t 75), none⟩, 4), (⟨(some 77), .call 23 [], (some (76, true))⟩, 5), (⟨(some 78), .pick (.t 76) (.t 77) (.c (.bool false)), none⟩, 5), (⟨(some 8), .move (.t 78), none⟩, 5)])
  .ret)))))))))⟩
theorem ok_law37_CountingMade : cFunc Go.Proofs.Try.prog Go.Proofs.Try.f7 = some c_law37_CountingMade := by kernel_rfl
abbrev n_made_New : Nat := 8
def c_made_New : CFunc := ⟨11, [.tmp 2], (.seq (.reg [⟨(some 2), .move (.c (.pointer none)), none⟩])
  (.seq (.seq (.reg [⟨(some 3), .move (.t 0), none⟩, ⟨(some 4), .lenSl (.t 3), none⟩, ⟨(some 5), .bin .gtr (.t 4) (.c (.int .i64 (.ofNat 80))), none⟩])
  (.cond (.t 5) (.reg [⟨(some 6), .move (.t 0), none⟩, ⟨(some 7), .slice 1 (.t 6) none (some (.c (.int .i64 (.ofNat 80)))), none⟩, ⟨(some 0), .move (.t 7), none⟩]) .skip))
  (.seq (.reg [⟨(some 8), .move (.t 0), none⟩, ⟨(some 9), .build [(.slice none 0 0), (.int .i64 (.ofNat 0))] [(0, 1, (.t 8))], none⟩, ⟨(some 10), .box 62 (.t 9), none⟩, ⟨(some 2), .move (.t 10), none⟩])
  .ret)))⟩
theorem ok_made_New : cFunc Go.Proofs.Try.prog Go.Proofs.Try.f8 = some c_made_New := by kernel_rfl
abbrev n_made_Tape_Next : Nat := 9
def c_made_Tape_Next : CFunc := ⟨35, [.tmp 4], (.seq (.reg [⟨(some 4), .move (.c (.int .i64 (.ofNat 0))), none⟩])
  (.seq (.seq (.draw [(⟨(some 5), .move (.t 0), none⟩, 0), (⟨(some 6), .nilCheck (.t 5), none⟩, 0), (⟨(some 7), .faddr 1 (.t 6), none⟩, 0), (⟨(some 8), .load (.t 7), none⟩, 0), (⟨(some 9), .move (.t 0), none⟩, 0), (⟨(some 10), .nilCheck (.t 9), none⟩, 0), (⟨(some 11), .faddr 0 (.t 10), none⟩, 0), (⟨(some 12), .load (.t 11), none⟩, 0), (⟨(some 13), .lenSl (.t 12), none⟩, 0), (⟨(some 14), .bin .geq (.t 8) (.t 13), none⟩, 0)])
  (.cond (.t 14) (.seq (.reg [⟨(some 4), .move (.c (.int .i64 (.ofNat 0))), none⟩])
  .ret) .skip))
  (.seq (.reg [⟨(some 15), .move (.t 0), none⟩, ⟨(some 16), .nilCheck (.t 15), none⟩, ⟨(some 17), .faddr 1 (.t 16), none⟩, ⟨(some 18), .load (.t 17), none⟩, ⟨(some 19), .bin .add (.t 18) (.c (.int .i64 (.ofNat 1))), none⟩, ⟨(some 20), .nilCheck (.t 15), none⟩, ⟨(some 21), .faddr 1 (.t 20), none⟩, ⟨none, .store 1 (.t 21) (.t 19), none⟩])
  (.seq (.draw [(⟨(some 22), .move (.t 0), none⟩, 0), (⟨(some 23), .nilCheck (.t 22), none⟩, 0), (⟨(some 24), .faddr 0 (.t 23), none⟩, 0), (⟨(some 25), .load (.t 24), none⟩, 0), (⟨(some 26), .move (.t 0), none⟩, 0), (⟨(some 27), .nilCheck (.t 26), none⟩, 0), (⟨(some 28), .faddr 1 (.t 27), none⟩, 0), (⟨(some 29), .load (.t 28), none⟩, 0), (⟨(some 30), .bin .sub (.t 29) (.c (.int .i64 (.ofNat 1))), none⟩, 0), (⟨(some 31), .iaddr 1 (.t 25) (.t 30), none⟩, 0), (⟨(some 32), .load (.t 31), none⟩, 0), (⟨(some 33), .move (.t 1), none⟩, 0), (⟨(some 34), .call 25 [(.t 32), (.t 33)], none⟩, 1), (⟨(some 4), .move (.t 34), none⟩, 1)])
  .ret))))⟩
theorem ok_made_Tape_Next : cFunc Go.Proofs.Try.prog Go.Proofs.Try.f9 = some c_made_Tape_Next := by kernel_rfl
abbrev n_made_Tape_Word : Nat := 11
def c_made_Tape_Word : CFunc := ⟨27, [.tmp 6], (.seq (.reg [⟨(some 6), .move (.c (.string ⟨⟨[]⟩⟩)), none⟩])
  (.seq (.reg [⟨(some 7), .move (.c (.slice none 0 0)), none⟩])
  (.seq (.seq (.reg [⟨(some 9), .move (.t 0), none⟩, ⟨(some 10), .move (.t 2), none⟩, ⟨(some 11), .bin .add (.t 10) (.c (.int .i64 (.ofNat 1))), none⟩, ⟨(some 12), .call 9 [(.t 9), (.t 11)], none⟩, ⟨(some 8), .move (.t 12), none⟩])
  (.block 0 (.loop (.seq (.seq (.reg [⟨(some 13), .move (.t 8), none⟩, ⟨(some 14), .bin .gtr (.t 13) (.c (.int .i64 (.ofNat 0))), none⟩])
  (.cond (.t 14) .skip (.exit 0)))
  (.seq (.block 1 (.reg [⟨(some 17), .move (.t 7), none⟩, ⟨(some 18), .move (.t 0), none⟩, ⟨(some 19), .move (.t 1), none⟩, ⟨(some 20), .call 9 [(.t 18), (.t 19)], none⟩, ⟨(some 21), .bin .add (.c (.int .i64 (.ofNat 97))) (.t 20), none⟩, ⟨(some 22), .conv .u8 (.t 21), none⟩, ⟨(some 23), .buildSlice 5 1 1 [(.int .u8 (.ofNat 0))] [(0, (.t 22))], none⟩, ⟨(some 24), .append 5 1 1 (.t 17) (.t 23), none⟩, ⟨(some 7), .move (.t 24), none⟩]))
  (.reg [⟨(some 15), .move (.t 8), none⟩, ⟨(some 16), .bin .sub (.t 15) (.c (.int .i64 (.ofNat 1))), none⟩, ⟨(some 8), .move (.t 16), none⟩]))))))
  (.seq (.reg [⟨(some 25), .move (.t 7), none⟩, ⟨(some 26), .strOf (.t 25), none⟩, ⟨(some 6), .move (.t 26), none⟩])
  .ret))))⟩
theorem ok_made_Tape_Word : cFunc Go.Proofs.Try.prog Go.Proofs.Try.f11 = some c_made_Tape_Word := by kernel_rfl
abbrev n_made_Tape_Counts : Nat := 21
def c_made_Tape_Counts : CFunc := ⟨56, [.cells 3 4], (.seq (.reg [⟨(some 4), .alloc 53 [(.slice none 0 0), (.slice none 0 0), (.slice none 0 0)], none⟩])
  (.seq (.reg [⟨(some 5), .alloc 53 [(.slice none 0 0), (.slice none 0 0), (.slice none 0 0)], none⟩])
  (.seq (.reg [⟨(some 6), .move (.c (.int .i64 (.ofNat 1))), none⟩])
  (.seq (.seq (.reg [⟨(some 7), .move (.c (.int .i64 (.ofNat 0))), none⟩])
  (.block 0 (.loop (.seq (.seq (.reg [⟨(some 9), .move (.t 7), none⟩, ⟨(some 10), .move (.t 1), none⟩, ⟨(some 11), .bin .lss (.t 9) (.t 10), none⟩])
  (.cond (.t 11) .skip (.exit 0)))
  (.seq (.block 1 (.seq (.draw [(⟨(some 14), .faddr 0 (.t 5), none⟩, 1), (⟨(some 15), .load (.t 14), none⟩, 1), (⟨(some 16), .move (.t 0), none⟩, 0), (⟨(some 20), .faddr 1 (.t 5), none⟩, 3), (⟨(some 21), .load (.t 20), none⟩, 3), (⟨(some 22), .move (.t 0), none⟩, 2), (⟨(some 17), .call 9 [(.t 16), (.c (.int .i64 (.ofNat 3)))], none⟩, 1), (⟨(some 18), .buildSlice 3 1 1 [(.int .i64 (.ofNat 0))] [(0, (.t 17))], none⟩, 1), (⟨(some 19), .append 3 1 8 (.t 15) (.t 18), none⟩, 2), (⟨(some 27), .faddr 0 (.t 5), none⟩, 4), (⟨(some 23), .call 9 [(.t 22), (.c (.int .i64 (.ofNat 3)))], none⟩, 3), (⟨(some 24), .bin .add (.c (.int .i64 (.ofNat 1))) (.t 23), none⟩, 3), (⟨(some 25), .buildSlice 3 1 1 [(.int .i64 (.ofNat 0))] [(0, (.t 24))], none⟩, 3), (⟨(some 26), .append 3 1 8 (.t 21) (.t 25), none⟩, 4), (⟨none, .store 1 (.t 27) (.t 19), none⟩, 5), (⟨(some 28), .faddr 1 (.t 5), none⟩, 5), (⟨none, .store 1 (.t 28) (.t 26), none⟩, 6)])
  (.draw [(⟨(some 29), .move (.t 6), none⟩, 0), (⟨(some 30), .faddr 0 (.t 5), none⟩, 0), (⟨(some 31), .load (.t 30), none⟩, 0), (⟨(some 32), .move (.t 7), none⟩, 0), (⟨(some 33), .iaddr 1 (.t 31) (.t 32), none⟩, 0), (⟨(some 34), .load (.t 33), none⟩, 0), (⟨(some 35), .faddr 1 (.t 5), none⟩, 0), (⟨(some 36), .load (.t 35), none⟩, 0), (⟨(some 37), .move (.t 7), none⟩, 0), (⟨(some 38), .iaddr 1 (.t 36) (.t 37), none⟩, 0), (⟨(some 39), .load (.t 38), none⟩, 0), (⟨(some 40), .bin .add (.t 34) (.t 39), none⟩, 0), (⟨(some 41), .bin .mul (.t 29) (.t 40), none⟩, 0), (⟨(some 6), .move (.t 41), none⟩, 0)])))
  (.reg [⟨(some 12), .move (.t 7), none⟩, ⟨(some 13), .bin .add (.t 12) (.c (.int .i64 (.ofNat 1))), none⟩, ⟨(some 7), .move (.t 13), none⟩]))))))
  (.seq (.seq (.reg [⟨(some 8), .move (.c (.int .i64 (.ofNat 0))), none⟩])
  (.block 2 (.loop (.seq (.seq (.reg [⟨(some 42), .move (.t 8), none⟩, ⟨(some 43), .move (.t 6), none⟩, ⟨(some 44), .bin .lss (.t 42) (.t 43), none⟩])
  (.cond (.t 44) .skip (.exit 2)))
  (.seq (.block 3 (.draw [(⟨(some 47), .faddr 2 (.t 5), none⟩, 1), (⟨(some 48), .load (.t 47), none⟩, 1), (⟨(some 49), .move (.t 0), none⟩, 0), (⟨(some 50), .call 9 [(.t 49), (.c (.int .i64 (.ofNat 2)))], none⟩, 1), (⟨(some 51), .bin .eql (.t 50) (.c (.int .i64 (.ofNat 1))), none⟩, 1), (⟨(some 52), .buildSlice 4 1 1 [(.bool false)] [(0, (.t 51))], none⟩, 1), (⟨(some 53), .append 4 1 1 (.t 48) (.t 52), none⟩, 2), (⟨(some 54), .faddr 2 (.t 5), none⟩, 2), (⟨none, .store 1 (.t 54) (.t 53), none⟩, 3)]))
  (.reg [⟨(some 45), .move (.t 8), none⟩, ⟨(some 46), .bin .add (.t 45) (.c (.int .i64 (.ofNat 1))), none⟩, ⟨(some 8), .move (.t 46), none⟩]))))))
  (.seq (.reg [⟨(some 55), .loadN 3 (.t 5), none⟩, ⟨none, .store 3 (.t 4) (.t 55), none⟩])
  .ret))))))⟩
theorem ok_made_Tape_Counts : cFunc Go.Proofs.Try.prog Go.Proofs.Try.f21 = some c_made_Tape_Counts := by kernel_rfl
abbrev n_counting_Match : Nat := 22
def c_counting_Match : CFunc := ⟨37, [.tmp 4], (.seq (.reg [⟨(some 2), .box 53 (.t 0), none⟩, ⟨(some 4), .move (.c (.bool false)), none⟩])
  (.seq (.seq (.reg [⟨(some 7), .loadN 3 (.t 2), none⟩, ⟨(some 8), .call 26 [(.t 7)], none⟩, ⟨(some 9), .bin .neq (.t 8) (.c (.int .i64 (.ofNat 0))), none⟩, ⟨(some 10), .move (.t 9), none⟩, ⟨(some 11), .move (.t 1), (some (10, false))⟩, ⟨(some 12), .faddr 0 (.t 2), (some (10, false))⟩, ⟨(some 13), .load (.t 12), (some (10, false))⟩, ⟨(some 14), .lenSl (.t 13), (some (10, false))⟩, ⟨(some 15), .call 44 [(.t 11), (.t 14)], (some (10, false))⟩, ⟨(some 16), .not (.t 15), (some (10, false))⟩, ⟨(some 17), .pick (.t 10) (.c (.bool true)) (.t 16), none⟩])
  (.cond (.t 17) (.seq (.reg [⟨(some 4), .move (.c (.bool false)), none⟩])
  .ret) .skip))
  (.seq (.reg [⟨(some 5), .move (.c (.int .i64 (.ofNat 0))), none⟩])
  (.seq (.seq (.reg [⟨(some 6), .move (.c (.int .i64 (.ofNat 0))), none⟩])
  (.block 0 (.loop (.seq (.seq (.reg [⟨(some 18), .move (.t 6), none⟩, ⟨(some 19), .move (.t 1), none⟩, ⟨(some 20), .lenStr (.t 19), none⟩, ⟨(some 21), .bin .lss (.t 18) (.t 20), none⟩])
  (.cond (.t 21) .skip (.exit 0)))
  (.seq (.block 1 (.draw [(⟨(some 24), .loadN 3 (.t 2), none⟩, 0), (⟨(some 25), .move (.t 5), none⟩, 0), (⟨(some 26), .move (.t 1), none⟩, 0), (⟨(some 27), .move (.t 6), none⟩, 0), (⟨(some 28), .idxStr (.t 26) (.t 27), none⟩, 0), (⟨(some 29), .bin .sub (.t 28) (.c (.int .u8 (.ofNat 97))), none⟩, 0), (⟨(some 30), .conv .i64 (.t 29), none⟩, 0), (⟨(some 31), .call 60 [(.t 24), (.t 25), (.t 30)], none⟩, 1), (⟨(some 5), .move (.t 31), none⟩, 1)]))
  (.reg [⟨(some 22), .move (.t 6), none⟩, ⟨(some 23), .bin .add (.t 22) (.c (.int .i64 (.ofNat 1))), none⟩, ⟨(some 6), .move (.t 23), none⟩]))))))
  (.seq (.reg [⟨(some 32), .faddr 2 (.t 2), none⟩, ⟨(some 33), .load (.t 32), none⟩, ⟨(some 34), .move (.t 5), none⟩, ⟨(some 35), .iaddr 1 (.t 33) (.t 34), none⟩, ⟨(some 36), .load (.t 35), none⟩, ⟨(some 4), .move (.t 36), none⟩])
  .ret)))))⟩
theorem ok_counting_Match : cFunc Go.Proofs.Try.prog Go.Proofs.Try.f22 = some c_counting_Match := by kernel_rfl
abbrev n_law37_known : Nat := 23
abbrev n_law37_all : Nat := 24
def c_law37_all : CFunc := ⟨43, [.tmp 4], (.seq (.reg [⟨(some 2), .box 53 (.t 0), none⟩, ⟨(some 4), .move (.c (.bool false)), none⟩])
  (.seq (.reg [⟨(some 10), .loadN 3 (.t 2), none⟩, ⟨(some 11), .call 64 [(.t 10)], none⟩, ⟨(some 9), .move (.t 11), none⟩, ⟨(some 12), .extract 0 (.t 9), none⟩, ⟨(some 13), .extract 1 (.t 9), none⟩, ⟨(some 5), .alloc 32 [(.int .i64 (.ofNat 0)), (.int .i64 (.ofNat 0)), (.slice none 0 0), (.slice none 0 0)], none⟩, ⟨none, .store 4 (.t 5) (.t 12), none⟩, ⟨(some 6), .move (.t 13), none⟩])
  (.seq (.reg [⟨(some 15), .loadN 3 (.t 2), none⟩, ⟨(some 16), .call 65 [(.t 15)], none⟩, ⟨(some 14), .move (.t 16), none⟩, ⟨(some 17), .extract 0 (.t 14), none⟩, ⟨(some 18), .extract 1 (.t 14), none⟩, ⟨(some 7), .alloc 32 [(.int .i64 (.ofNat 0)), (.int .i64 (.ofNat 0)), (.slice none 0 0), (.slice none 0 0)], none⟩, ⟨none, .store 4 (.t 7) (.t 17), none⟩, ⟨(some 8), .move (.t 18), none⟩])
  (.seq (.draw [(⟨(some 19), .loadN 3 (.t 2), none⟩, 0), (⟨(some 21), .loadN 3 (.t 2), none⟩, 1), (⟨(some 20), .call 26 [(.t 19)], none⟩, 1), (⟨(some 22), .call 27 [(.t 21)], none⟩, 2), (⟨(some 23), .bin .eql (.t 20) (.t 22), none⟩, 2), (⟨(some 24), .move (.t 23), none⟩, 2), (⟨(some 25), .loadN 3 (.t 2), (some (24, true))⟩, 2), (⟨(some 26), .move (.t 1), (some (24, true))⟩, 2), (⟨(some 28), .loadN 3 (.t 2), (some (24, true))⟩, 3), (⟨(some 29), .move (.t 1), (some (24, true))⟩, 3), (⟨(some 27), .call 22 [(.t 25), (.t 26)], (some (24, true))⟩, 3), (⟨(some 30), .call 28 [(.t 28), (.t 29)], (some (24, true))⟩, 4), (⟨(some 31), .eqB false (.t 27) (.t 30), (some (24, true))⟩, 4), (⟨(some 32), .pick (.t 24) (.t 31) (.c (.bool false)), none⟩, 4), (⟨(some 33), .move (.t 32), none⟩, 4), (⟨(some 34), .move (.t 6), (some (33, true))⟩, 4), (⟨(some 35), .move (.t 8), (some (33, true))⟩, 4), (⟨(some 36), .bin .eql (.t 34) (.t 35), (some (33, true))⟩, 4), (⟨(some 37), .pick (.t 33) (.t 36) (.c (.bool false)), none⟩, 4), (⟨(some 38), .move (.t 37), none⟩, 4), (⟨(some 39), .loadN 4 (.t 5), (some (38, true))⟩, 4), (⟨(some 40), .loadN 4 (.t 7), (some (38, true))⟩, 4), (⟨(some 41), .call 66 [(.t 39), (.t 40)], (some (38, true))⟩, 5), (⟨(some 42), .pick (.t 38) (.t 41) (.c (.bool false)), none⟩, 5), (⟨(some 4), .move (.t 42), none⟩, 5)])
  .ret))))⟩
theorem ok_law37_all : cFunc Go.Proofs.Try.prog Go.Proofs.Try.f24 = some c_law37_all := by kernel_rfl
abbrev n_made_Mod : Nat := 25
def c_made_Mod : CFunc := ⟨16, [.tmp 4], (.seq (.reg [⟨(some 4), .move (.c (.int .i64 (.ofNat 0))), none⟩])
  (.seq (.seq (.reg [⟨(some 5), .move (.t 1), none⟩, ⟨(some 6), .bin .lss (.t 5) (.c (.int .i64 (.ofNat 1))), none⟩])
  (.cond (.t 6) (.seq (.reg [⟨(some 4), .move (.c (.int .i64 (.ofNat 0))), none⟩])
  .ret) .skip))
  (.seq (.reg [⟨(some 7), .move (.t 0), none⟩, ⟨(some 8), .move (.t 1), none⟩, ⟨(some 9), .bin .rem (.t 7) (.t 8), none⟩, ⟨(some 0), .move (.t 9), none⟩])
  (.seq (.seq (.reg [⟨(some 10), .move (.t 0), none⟩, ⟨(some 11), .bin .lss (.t 10) (.c (.int .i64 (.ofNat 0))), none⟩])
  (.cond (.t 11) (.reg [⟨(some 12), .move (.t 0), none⟩, ⟨(some 13), .move (.t 1), none⟩, ⟨(some 14), .bin .add (.t 12) (.t 13), none⟩, ⟨(some 0), .move (.t 14), none⟩]) .skip))
  (.seq (.reg [⟨(some 15), .move (.t 0), none⟩, ⟨(some 4), .move (.t 15), none⟩])
  .ret)))))⟩
theorem ok_made_Mod : cFunc Go.Proofs.Try.prog Go.Proofs.Try.f25 = some c_made_Mod := by kernel_rfl
abbrev n_counting_Validate : Nat := 26
def c_counting_Validate : CFunc := ⟨55, [.tmp 2], (.seq (.reg [⟨(some 1), .box 53 (.t 0), none⟩, ⟨(some 2), .move (.c (.int .i64 (.ofNat 0))), none⟩])
  (.seq (.seq (.reg [⟨(some 5), .faddr 0 (.t 1), none⟩, ⟨(some 6), .load (.t 5), none⟩, ⟨(some 7), .lenSl (.t 6), none⟩, ⟨(some 8), .bin .lss (.t 7) (.c (.int .i64 (.ofNat 1))), none⟩, ⟨(some 9), .move (.t 8), none⟩, ⟨(some 10), .faddr 0 (.t 1), (some (9, false))⟩, ⟨(some 11), .load (.t 10), (some (9, false))⟩, ⟨(some 12), .lenSl (.t 11), (some (9, false))⟩, ⟨(some 13), .bin .gtr (.t 12) (.c (.int .i64 (.ofNat 6))), (some (9, false))⟩, ⟨(some 14), .pick (.t 9) (.c (.bool true)) (.t 13), none⟩])
  (.cond (.t 14) (.seq (.reg [⟨(some 2), .move (.c (.int .i64 (.ofNat 1))), none⟩])
  .ret) .skip))
  (.seq (.seq (.reg [⟨(some 15), .faddr 1 (.t 1), none⟩, ⟨(some 16), .load (.t 15), none⟩, ⟨(some 17), .lenSl (.t 16), none⟩, ⟨(some 18), .faddr 0 (.t 1), none⟩, ⟨(some 19), .load (.t 18), none⟩, ⟨(some 20), .lenSl (.t 19), none⟩, ⟨(some 21), .bin .neq (.t 17) (.t 20), none⟩])
  (.cond (.t 21) (.seq (.reg [⟨(some 2), .move (.c (.int .i64 (.ofNat 22))), none⟩])
  .ret) .skip))
  (.seq (.seq (.reg [⟨(some 22), .faddr 0 (.t 1), none⟩, ⟨(some 23), .load (.t 22), none⟩, ⟨(some 24), .lenSl (.t 23), none⟩, ⟨(some 25), .move (.c (.int .i64 (.ofNat 0))), none⟩])
  (.block 0 (.loop (.seq (.reg [⟨(some 26), .bin .lss (.t 25) (.t 24), none⟩])
  (.seq (.cond (.t 26) .skip (.exit 0))
  (.seq (.block 1 (.seq (.reg [⟨(some 27), .move (.t 25), none⟩, ⟨(some 3), .move (.t 27), none⟩])
  (.seq (.reg [⟨(some 28), .faddr 0 (.t 1), none⟩, ⟨(some 29), .load (.t 28), none⟩, ⟨(some 30), .move (.t 3), none⟩, ⟨(some 31), .iaddr 1 (.t 29) (.t 30), none⟩, ⟨(some 32), .load (.t 31), none⟩, ⟨(some 33), .bin .lss (.t 32) (.c (.int .i64 (.ofNat 0))), none⟩, ⟨(some 34), .move (.t 33), none⟩, ⟨(some 35), .faddr 1 (.t 1), (some (34, false))⟩, ⟨(some 36), .load (.t 35), (some (34, false))⟩, ⟨(some 37), .move (.t 3), (some (34, false))⟩, ⟨(some 38), .iaddr 1 (.t 36) (.t 37), (some (34, false))⟩, ⟨(some 39), .load (.t 38), (some (34, false))⟩, ⟨(some 40), .bin .lss (.t 39) (.c (.int .i64 (.ofNat 1))), (some (34, false))⟩, ⟨(some 41), .pick (.t 34) (.c (.bool true)) (.t 40), none⟩])
  (.cond (.t 41) (.seq (.reg [⟨(some 2), .move (.c (.int .i64 (.ofNat 22))), none⟩])
  .ret) .skip))))
  (.reg [⟨(some 42), .bin .add (.t 25) (.c (.int .i64 (.ofNat 1))), none⟩, ⟨(some 25), .move (.t 42), none⟩])))))))
  (.seq (.reg [⟨(some 43), .faddr 0 (.t 1), none⟩, ⟨(some 44), .load (.t 43), none⟩, ⟨(some 45), .faddr 1 (.t 1), none⟩, ⟨(some 46), .load (.t 45), none⟩, ⟨(some 47), .call 67 [(.t 44), (.t 46)], none⟩, ⟨(some 4), .move (.t 47), none⟩])
  (.seq (.seq (.reg [⟨(some 48), .move (.t 4), none⟩, ⟨(some 49), .bin .gtr (.t 48) (.c (.int .i64 (.ofNat 2000))), none⟩])
  (.cond (.t 49) (.seq (.reg [⟨(some 2), .move (.c (.int .i64 (.ofNat 3))), none⟩])
  .ret) .skip))
  (.seq (.seq (.reg [⟨(some 50), .faddr 2 (.t 1), none⟩, ⟨(some 51), .load (.t 50), none⟩, ⟨(some 52), .lenSl (.t 51), none⟩, ⟨(some 53), .move (.t 4), none⟩, ⟨(some 54), .bin .neq (.t 52) (.t 53), none⟩])
  (.cond (.t 54) (.seq (.reg [⟨(some 2), .move (.c (.int .i64 (.ofNat 22))), none⟩])
  .ret) .skip))
  (.seq (.reg [⟨(some 2), .move (.c (.int .i64 (.ofNat 0))), none⟩])
  .ret))))))))⟩
theorem ok_counting_Validate : cFunc Go.Proofs.Try.prog Go.Proofs.Try.f26 = some c_counting_Validate := by kernel_rfl
abbrev n_ref37_Validate : Nat := 27
def c_ref37_Validate : CFunc := ⟨51, [.tmp 2], (.seq (.reg [⟨(some 1), .box 53 (.t 0), none⟩, ⟨(some 2), .move (.c (.int .i64 (.ofNat 0))), none⟩])
  (.seq (.seq (.reg [⟨(some 6), .faddr 0 (.t 1), none⟩, ⟨(some 7), .load (.t 6), none⟩, ⟨(some 8), .lenSl (.t 7), none⟩, ⟨(some 9), .call 49 [(.t 8)], none⟩, ⟨(some 10), .not (.t 9), none⟩])
  (.cond (.t 10) (.seq (.reg [⟨(some 2), .move (.c (.int .i64 (.ofNat 1))), none⟩])
  .ret) .skip))
  (.seq (.seq (.reg [⟨(some 11), .faddr 1 (.t 1), none⟩, ⟨(some 12), .load (.t 11), none⟩, ⟨(some 13), .lenSl (.t 12), none⟩, ⟨(some 14), .faddr 0 (.t 1), none⟩, ⟨(some 15), .load (.t 14), none⟩, ⟨(some 16), .lenSl (.t 15), none⟩, ⟨(some 17), .bin .neq (.t 13) (.t 16), none⟩])
  (.cond (.t 17) (.seq (.reg [⟨(some 2), .move (.c (.int .i64 (.ofNat 22))), none⟩])
  .ret) .skip))
  (.seq (.seq (.reg [⟨(some 18), .faddr 0 (.t 1), none⟩, ⟨(some 19), .load (.t 18), none⟩, ⟨(some 20), .lenSl (.t 19), none⟩, ⟨(some 21), .move (.c (.int .i64 (.ofNat 0))), none⟩])
  (.block 0 (.loop (.seq (.reg [⟨(some 22), .bin .lss (.t 21) (.t 20), none⟩])
  (.seq (.cond (.t 22) .skip (.exit 0))
  (.seq (.block 1 (.seq (.reg [⟨(some 23), .move (.t 21), none⟩, ⟨(some 3), .move (.t 23), none⟩])
  (.seq (.reg [⟨(some 24), .faddr 0 (.t 1), none⟩, ⟨(some 25), .load (.t 24), none⟩, ⟨(some 26), .move (.t 3), none⟩, ⟨(some 27), .iaddr 1 (.t 25) (.t 26), none⟩, ⟨(some 28), .load (.t 27), none⟩, ⟨(some 29), .bin .lss (.t 28) (.c (.int .i64 (.ofNat 0))), none⟩, ⟨(some 30), .move (.t 29), none⟩, ⟨(some 31), .faddr 1 (.t 1), (some (30, false))⟩, ⟨(some 32), .load (.t 31), (some (30, false))⟩, ⟨(some 33), .move (.t 3), (some (30, false))⟩, ⟨(some 34), .iaddr 1 (.t 32) (.t 33), (some (30, false))⟩, ⟨(some 35), .load (.t 34), (some (30, false))⟩, ⟨(some 36), .bin .lss (.t 35) (.c (.int .i64 (.ofNat 1))), (some (30, false))⟩, ⟨(some 37), .pick (.t 30) (.c (.bool true)) (.t 36), none⟩])
  (.cond (.t 37) (.seq (.reg [⟨(some 2), .move (.c (.int .i64 (.ofNat 22))), none⟩])
  .ret) .skip))))
  (.reg [⟨(some 38), .bin .add (.t 21) (.c (.int .i64 (.ofNat 1))), none⟩, ⟨(some 21), .move (.t 38), none⟩])))))))
  (.seq (.reg [⟨(some 40), .loadN 3 (.t 1), none⟩, ⟨(some 41), .call 68 [(.t 40)], none⟩, ⟨(some 39), .move (.t 41), none⟩, ⟨(some 42), .extract 0 (.t 39), none⟩, ⟨(some 43), .extract 1 (.t 39), none⟩, ⟨(some 4), .move (.t 42), none⟩, ⟨(some 5), .move (.t 43), none⟩])
  (.seq (.seq (.reg [⟨(some 44), .move (.t 5), none⟩, ⟨(some 45), .not (.t 44), none⟩])
  (.cond (.t 45) (.seq (.reg [⟨(some 2), .move (.c (.int .i64 (.ofNat 3))), none⟩])
  .ret) .skip))
  (.seq (.seq (.reg [⟨(some 46), .faddr 2 (.t 1), none⟩, ⟨(some 47), .load (.t 46), none⟩, ⟨(some 48), .lenSl (.t 47), none⟩, ⟨(some 49), .move (.t 4), none⟩, ⟨(some 50), .bin .neq (.t 48) (.t 49), none⟩])
  (.cond (.t 50) (.seq (.reg [⟨(some 2), .move (.c (.int .i64 (.ofNat 22))), none⟩])
  .ret) .skip))
  (.seq (.reg [⟨(some 2), .move (.c (.int .i64 (.ofNat 0))), none⟩])
  .ret))))))))⟩
theorem ok_ref37_Validate : cFunc Go.Proofs.Try.prog Go.Proofs.Try.f27 = some c_ref37_Validate := by kernel_rfl
abbrev n_ref37_Match : Nat := 28
def c_ref37_Match : CFunc := ⟨44, [.tmp 4], (.seq (.reg [⟨(some 2), .box 53 (.t 0), none⟩, ⟨(some 4), .move (.c (.bool false)), none⟩])
  (.seq (.seq (.reg [⟨(some 7), .loadN 3 (.t 2), none⟩, ⟨(some 8), .call 27 [(.t 7)], none⟩, ⟨(some 9), .bin .neq (.t 8) (.c (.int .i64 (.ofNat 0))), none⟩, ⟨(some 10), .move (.t 9), none⟩, ⟨(some 11), .move (.t 1), (some (10, false))⟩, ⟨(some 12), .faddr 0 (.t 2), (some (10, false))⟩, ⟨(some 13), .load (.t 12), (some (10, false))⟩, ⟨(some 14), .lenSl (.t 13), (some (10, false))⟩, ⟨(some 15), .call 54 [(.t 11), (.t 14)], (some (10, false))⟩, ⟨(some 16), .not (.t 15), (some (10, false))⟩, ⟨(some 17), .pick (.t 10) (.c (.bool true)) (.t 16), none⟩])
  (.cond (.t 17) (.seq (.reg [⟨(some 4), .move (.c (.bool false)), none⟩])
  .ret) .skip))
  (.seq (.reg [⟨(some 18), .faddr 0 (.t 2), none⟩, ⟨(some 19), .load (.t 18), none⟩, ⟨(some 20), .lenSl (.t 19), none⟩, ⟨(some 21), .mkSlice 3 8 1 [(.int .i64 (.ofNat 0))] (.t 20) (.t 20), none⟩, ⟨(some 5), .move (.t 21), none⟩])
  (.seq (.seq (.reg [⟨(some 6), .move (.c (.int .i64 (.ofNat 0))), none⟩])
  (.block 0 (.loop (.seq (.seq (.reg [⟨(some 22), .move (.t 6), none⟩, ⟨(some 23), .move (.t 1), none⟩, ⟨(some 24), .lenStr (.t 23), none⟩, ⟨(some 25), .bin .lss (.t 22) (.t 24), none⟩])
  (.cond (.t 25) .skip (.exit 0)))
  (.seq (.block 1 (.reg [⟨(some 28), .move (.t 5), none⟩, ⟨(some 29), .move (.t 1), none⟩, ⟨(some 30), .move (.t 6), none⟩, ⟨(some 31), .idxStr (.t 29) (.t 30), none⟩, ⟨(some 32), .bin .sub (.t 31) (.c (.int .u8 (.ofNat 97))), none⟩, ⟨(some 33), .iaddr 1 (.t 28) (.t 32), none⟩, ⟨(some 34), .load (.t 33), none⟩, ⟨(some 35), .bin .add (.t 34) (.c (.int .i64 (.ofNat 1))), none⟩, ⟨(some 36), .iaddr 1 (.t 28) (.t 32), none⟩, ⟨none, .store 1 (.t 36) (.t 35), none⟩]))
  (.reg [⟨(some 26), .move (.t 6), none⟩, ⟨(some 27), .bin .add (.t 26) (.c (.int .i64 (.ofNat 1))), none⟩, ⟨(some 6), .move (.t 27), none⟩]))))))
  (.seq (.draw [(⟨(some 37), .faddr 2 (.t 2), none⟩, 1), (⟨(some 38), .load (.t 37), none⟩, 1), (⟨(some 39), .loadN 3 (.t 2), none⟩, 0), (⟨(some 40), .move (.t 5), none⟩, 0), (⟨(some 41), .call 69 [(.t 39), (.t 40)], none⟩, 1), (⟨(some 42), .iaddr 1 (.t 38) (.t 41), none⟩, 1), (⟨(some 43), .load (.t 42), none⟩, 1), (⟨(some 4), .move (.t 43), none⟩, 1)])
  .ret)))))⟩
theorem ok_ref37_Match : cFunc Go.Proofs.Try.prog Go.Proofs.Try.f28 = some c_ref37_Match := by kernel_rfl
abbrev n_machine_Minimal : Nat := 38
def c_machine_Minimal : CFunc := ⟨196, [.cells 4 2], (.seq (.reg [⟨(some 1), .box 66 (.t 0), none⟩, ⟨(some 2), .alloc 66 [(.int .i64 (.ofNat 0)), (.int .i64 (.ofNat 0)), (.slice none 0 0), (.slice none 0 0)], none⟩])
  (.seq (.reg [⟨(some 21), .loadN 4 (.t 1), none⟩, ⟨(some 22), .call 70 [(.t 21)], none⟩, ⟨none, .store 4 (.t 1) (.t 22), none⟩])
  (.seq (.reg [⟨(some 23), .faddr 3 (.t 1), none⟩, ⟨(some 24), .load (.t 23), none⟩, ⟨(some 25), .lenSl (.t 24), none⟩, ⟨(some 26), .mkSlice 3 8 1 [(.int .i64 (.ofNat 0))] (.t 25) (.t 25), none⟩, ⟨(some 3), .move (.t 26), none⟩])
  (.seq (.seq (.reg [⟨(some 27), .faddr 2 (.t 1), none⟩, ⟨(some 28), .load (.t 27), none⟩, ⟨(some 29), .lenSl (.t 28), none⟩, ⟨(some 30), .move (.c (.int .i64 (.ofNat 0))), none⟩])
  (.block 0 (.loop (.seq (.reg [⟨(some 31), .bin .lss (.t 30) (.t 29), none⟩])
  (.seq (.cond (.t 31) .skip (.exit 0))
  (.seq (.block 1 (.seq (.reg [⟨(some 32), .move (.t 30), none⟩, ⟨(some 33), .iaddr 1 (.t 28) (.t 30), none⟩, ⟨(some 34), .load (.t 33), none⟩, ⟨(some 4), .move (.t 32), none⟩, ⟨(some 5), .move (.t 34), none⟩])
  (.seq (.reg [⟨(some 35), .move (.t 5), none⟩, ⟨(some 36), .faddr 2 (.t 1), none⟩, ⟨(some 37), .load (.t 36), none⟩, ⟨(some 38), .iaddr 1 (.t 37) (.c (.int .i64 (.ofNat 0))), none⟩, ⟨(some 39), .load (.t 38), none⟩, ⟨(some 40), .eqB true (.t 35) (.t 39), none⟩])
  (.cond (.t 40) (.reg [⟨(some 41), .move (.t 3), none⟩, ⟨(some 42), .move (.t 4), none⟩, ⟨(some 43), .iaddr 1 (.t 41) (.t 42), none⟩, ⟨none, .store 1 (.t 43) (.c (.int .i64 (.ofNat 1))), none⟩]) .skip))))
  (.reg [⟨(some 44), .bin .add (.t 30) (.c (.int .i64 (.ofNat 1))), none⟩, ⟨(some 30), .move (.t 44), none⟩])))))))
  (.seq (.seq (.reg [⟨(some 6), .move (.c (.int .i64 (.ofNat 0))), none⟩])
  (.block 2 (.loop (.block 3 (.seq (.reg [⟨(some 45), .mkMap, none⟩, ⟨(some 7), .move (.t 45), none⟩])
  (.seq (.reg [⟨(some 46), .move (.t 3), none⟩, ⟨(some 47), .lenSl (.t 46), none⟩, ⟨(some 48), .mkSlice 3 8 1 [(.int .i64 (.ofNat 0))] (.t 47) (.t 47), none⟩, ⟨(some 8), .move (.t 48), none⟩])
  (.seq (.seq (.reg [⟨(some 49), .move (.t 3), none⟩, ⟨(some 50), .lenSl (.t 49), none⟩, ⟨(some 51), .move (.c (.int .i64 (.ofNat 0))), none⟩])
  (.block 4 (.loop (.seq (.reg [⟨(some 52), .bin .lss (.t 51) (.t 50), none⟩])
  (.seq (.cond (.t 52) .skip (.exit 4))
  (.seq (.block 5 (.seq (.reg [⟨(some 53), .move (.t 51), none⟩, ⟨(some 9), .move (.t 53), none⟩])
  (.seq (.reg [⟨(some 54), .faddr 0 (.t 1), none⟩, ⟨(some 55), .load (.t 54), none⟩, ⟨(some 56), .bin .mul (.c (.int .i64 (.ofNat 3))) (.t 55), none⟩, ⟨(some 57), .bin .add (.c (.int .i64 (.ofNat 3))) (.t 56), none⟩, ⟨(some 58), .mkSlice 5 1 1 [(.int .u8 (.ofNat 0))] (.c (.int .i64 (.ofNat 0))) (.t 57), none⟩, ⟨(some 10), .move (.t 58), none⟩])
  (.seq (.draw [(⟨(some 59), .move (.t 10), none⟩, 0), (⟨(some 60), .move (.t 3), none⟩, 0), (⟨(some 61), .move (.t 9), none⟩, 0), (⟨(some 62), .iaddr 1 (.t 60) (.t 61), none⟩, 0), (⟨(some 63), .load (.t 62), none⟩, 0), (⟨(some 64), .conv .u8 (.t 63), none⟩, 0), (⟨(some 65), .move (.t 3), none⟩, 0), (⟨(some 66), .move (.t 9), none⟩, 0), (⟨(some 67), .iaddr 1 (.t 65) (.t 66), none⟩, 0), (⟨(some 68), .load (.t 67), none⟩, 0), (⟨(some 69), .bin .shr (.t 68) (.c (.int .u64 (.ofNat 8))), none⟩, 0), (⟨(some 70), .conv .u8 (.t 69), none⟩, 0), (⟨(some 71), .move (.t 3), none⟩, 0), (⟨(some 72), .move (.t 9), none⟩, 0), (⟨(some 73), .iaddr 1 (.t 71) (.t 72), none⟩, 0), (⟨(some 74), .load (.t 73), none⟩, 0), (⟨(some 75), .bin .shr (.t 74) (.c (.int .u64 (.ofNat 16))), none⟩, 0), (⟨(some 76), .conv .u8 (.t 75), none⟩, 0), (⟨(some 77), .buildSlice 5 1 3 [(.int .u8 (.ofNat 0)), (.int .u8 (.ofNat 0)), (.int .u8 (.ofNat 0))] [(0, (.t 64)), (1, (.t 70)), (2, (.t 76))], none⟩, 0), (⟨(some 78), .append 5 1 1 (.t 59) (.t 77), none⟩, 1), (⟨(some 10), .move (.t 78), none⟩, 1)])
  (.seq (.seq (.reg [⟨(some 79), .faddr 3 (.t 1), none⟩, ⟨(some 80), .load (.t 79), none⟩, ⟨(some 81), .move (.t 9), none⟩, ⟨(some 82), .iaddr 1 (.t 80) (.t 81), none⟩, ⟨(some 83), .load (.t 82), none⟩, ⟨(some 84), .lenSl (.t 83), none⟩, ⟨(some 85), .move (.c (.int .i64 (.ofNat 0))), none⟩])
  (.block 6 (.loop (.seq (.reg [⟨(some 86), .bin .lss (.t 85) (.t 84), none⟩])
  (.seq (.cond (.t 86) .skip (.exit 6))
  (.seq (.block 7 (.seq (.reg [⟨(some 87), .iaddr 1 (.t 83) (.t 85), none⟩, ⟨(some 88), .load (.t 87), none⟩, ⟨(some 12), .move (.t 88), none⟩])
  (.draw [(⟨(some 89), .move (.t 10), none⟩, 0), (⟨(some 90), .move (.t 3), none⟩, 0), (⟨(some 91), .move (.t 12), none⟩, 0), (⟨(some 92), .iaddr 1 (.t 90) (.t 91), none⟩, 0), (⟨(some 93), .load (.t 92), none⟩, 0), (⟨(some 94), .conv .u8 (.t 93), none⟩, 0), (⟨(some 95), .move (.t 3), none⟩, 0), (⟨(some 96), .move (.t 12), none⟩, 0), (⟨(some 97), .iaddr 1 (.t 95) (.t 96), none⟩, 0), (⟨(some 98), .load (.t 97), none⟩, 0), (⟨(some 99), .bin .shr (.t 98) (.c (.int .u64 (.ofNat 8))), none⟩, 0), (⟨(some 100), .conv .u8 (.t 99), none⟩, 0), (⟨(some 101), .move (.t 3), none⟩, 0), (⟨(some 102), .move (.t 12), none⟩, 0), (⟨(some 103), .iaddr 1 (.t 101) (.t 102), none⟩, 0), (⟨(some 104), .load (.t 103), none⟩, 0), (⟨(some 105), .bin .shr (.t 104) (.c (.int .u64 (.ofNat 16))), none⟩, 0), (⟨(some 106), .conv .u8 (.t 105), none⟩, 0), (⟨(some 107), .buildSlice 5 1 3 [(.int .u8 (.ofNat 0)), (.int .u8 (.ofNat 0)), (.int .u8 (.ofNat 0))] [(0, (.t 94)), (1, (.t 100)), (2, (.t 106))], none⟩, 0), (⟨(some 108), .append 5 1 1 (.t 89) (.t 107), none⟩, 1), (⟨(some 10), .move (.t 108), none⟩, 1)])))
  (.reg [⟨(some 109), .bin .add (.t 85) (.c (.int .i64 (.ofNat 1))), none⟩, ⟨(some 85), .move (.t 109), none⟩])))))))
  (.seq (.reg [⟨(some 111), .move (.t 7), none⟩, ⟨(some 112), .move (.t 10), none⟩, ⟨(some 113), .strOf (.t 112), none⟩, ⟨(some 114), .lookup (.one .str) (.int .i64 (.ofNat 0)) true (.t 111) (.t 113), none⟩, ⟨(some 110), .move (.t 114), none⟩, ⟨(some 115), .extract 0 (.t 110), none⟩, ⟨(some 116), .extract 1 (.t 110), none⟩, ⟨(some 13), .move (.t 115), none⟩, ⟨(some 14), .move (.t 116), none⟩])
  (.seq (.seq (.reg [⟨(some 117), .move (.t 14), none⟩, ⟨(some 118), .not (.t 117), none⟩])
  (.cond (.t 118) (.seq (.reg [⟨(some 119), .move (.t 7), none⟩, ⟨(some 120), .lenMap (.t 119), none⟩, ⟨(some 13), .move (.t 120), none⟩])
  (.reg [⟨(some 121), .move (.t 7), none⟩, ⟨(some 122), .move (.t 10), none⟩, ⟨(some 123), .strOf (.t 122), none⟩, ⟨(some 124), .move (.t 13), none⟩, ⟨none, .mapSet (.one .str) (.t 121) (.t 123) (.t 124), none⟩])) .skip))
  (.reg [⟨(some 125), .move (.t 8), none⟩, ⟨(some 126), .move (.t 9), none⟩, ⟨(some 127), .move (.t 13), none⟩, ⟨(some 128), .iaddr 1 (.t 125) (.t 126), none⟩, ⟨none, .store 1 (.t 128) (.t 127), none⟩]))))))))
  (.reg [⟨(some 129), .bin .add (.t 51) (.c (.int .i64 (.ofNat 1))), none⟩, ⟨(some 51), .move (.t 129), none⟩])))))))
  (.seq (.reg [⟨(some 130), .move (.t 8), none⟩, ⟨(some 3), .move (.t 130), none⟩])
  (.seq (.seq (.reg [⟨(some 131), .move (.t 7), none⟩, ⟨(some 132), .lenMap (.t 131), none⟩, ⟨(some 133), .move (.t 6), none⟩, ⟨(some 134), .bin .eql (.t 132) (.t 133), none⟩])
  (.cond (.t 134) (.exit 2) .skip))
  (.reg [⟨(some 135), .move (.t 7), none⟩, ⟨(some 136), .lenMap (.t 135), none⟩, ⟨(some 6), .move (.t 136), none⟩]))))))))))
  (.seq (.draw [(⟨(some 137), .faddr 0 (.t 1), none⟩, 0), (⟨(some 138), .load (.t 137), none⟩, 0), (⟨(some 139), .move (.t 3), none⟩, 0), (⟨(some 140), .iaddr 1 (.t 139) (.c (.int .i64 (.ofNat 0))), none⟩, 0), (⟨(some 141), .load (.t 140), none⟩, 0), (⟨(some 142), .build [(.int .i64 (.ofNat 0)), (.int .i64 (.ofNat 0)), (.slice none 0 0), (.slice none 0 0)] [(0, 1, (.t 138)), (1, 1, (.t 141))], none⟩, 0), (⟨(some 15), .alloc 66 [(.int .i64 (.ofNat 0)), (.int .i64 (.ofNat 0)), (.slice none 0 0), (.slice none 0 0)], none⟩, 0), (⟨none, .store 4 (.t 15) (.t 142), none⟩, 1)])
  (.seq (.seq (.reg [⟨(some 143), .move (.t 3), none⟩, ⟨(some 144), .lenSl (.t 143), none⟩, ⟨(some 145), .move (.c (.int .i64 (.ofNat 0))), none⟩])
  (.block 8 (.loop (.seq (.reg [⟨(some 146), .bin .lss (.t 145) (.t 144), none⟩])
  (.seq (.cond (.t 146) .skip (.exit 8))
  (.seq (.block 9 (.seq (.reg [⟨(some 147), .move (.t 145), none⟩, ⟨(some 148), .iaddr 1 (.t 143) (.t 145), none⟩, ⟨(some 149), .load (.t 148), none⟩, ⟨(some 16), .move (.t 147), none⟩, ⟨(some 17), .move (.t 149), none⟩])
  (.seq (.seq (.reg [⟨(some 150), .move (.t 17), none⟩, ⟨(some 151), .faddr 3 (.t 15), none⟩, ⟨(some 152), .load (.t 151), none⟩, ⟨(some 153), .lenSl (.t 152), none⟩, ⟨(some 154), .bin .lss (.t 150) (.t 153), none⟩])
  (.cond (.t 154) (.exit 9) .skip))
  (.seq (.reg [⟨(some 155), .faddr 0 (.t 1), none⟩, ⟨(some 156), .load (.t 155), none⟩, ⟨(some 157), .mkSlice 3 8 1 [(.int .i64 (.ofNat 0))] (.t 156) (.t 156), none⟩, ⟨(some 18), .move (.t 157), none⟩])
  (.seq (.seq (.reg [⟨(some 158), .faddr 3 (.t 1), none⟩, ⟨(some 159), .load (.t 158), none⟩, ⟨(some 160), .move (.t 16), none⟩, ⟨(some 161), .iaddr 1 (.t 159) (.t 160), none⟩, ⟨(some 162), .load (.t 161), none⟩, ⟨(some 163), .lenSl (.t 162), none⟩, ⟨(some 164), .move (.c (.int .i64 (.ofNat 0))), none⟩])
  (.block 10 (.loop (.seq (.reg [⟨(some 165), .bin .lss (.t 164) (.t 163), none⟩])
  (.seq (.cond (.t 165) .skip (.exit 10))
  (.seq (.block 11 (.seq (.reg [⟨(some 166), .move (.t 164), none⟩, ⟨(some 167), .iaddr 1 (.t 162) (.t 164), none⟩, ⟨(some 168), .load (.t 167), none⟩, ⟨(some 19), .move (.t 166), none⟩, ⟨(some 20), .move (.t 168), none⟩])
  (.reg [⟨(some 169), .move (.t 18), none⟩, ⟨(some 170), .move (.t 19), none⟩, ⟨(some 171), .move (.t 3), none⟩, ⟨(some 172), .move (.t 20), none⟩, ⟨(some 173), .iaddr 1 (.t 171) (.t 172), none⟩, ⟨(some 174), .load (.t 173), none⟩, ⟨(some 175), .iaddr 1 (.t 169) (.t 170), none⟩, ⟨none, .store 1 (.t 175) (.t 174), none⟩])))
  (.reg [⟨(some 176), .bin .add (.t 164) (.c (.int .i64 (.ofNat 1))), none⟩, ⟨(some 164), .move (.t 176), none⟩])))))))
  (.seq (.reg [⟨(some 177), .faddr 3 (.t 15), none⟩, ⟨(some 178), .load (.t 177), none⟩, ⟨(some 179), .move (.t 18), none⟩, ⟨(some 180), .buildSlice 22 1 1 [(.slice none 0 0)] [(0, (.t 179))], none⟩, ⟨(some 181), .append 22 1 24 (.t 178) (.t 180), none⟩, ⟨(some 182), .faddr 3 (.t 15), none⟩, ⟨none, .store 1 (.t 182) (.t 181), none⟩])
  (.draw [(⟨(some 183), .faddr 2 (.t 15), none⟩, 0), (⟨(some 184), .load (.t 183), none⟩, 0), (⟨(some 185), .faddr 2 (.t 1), none⟩, 0), (⟨(some 186), .load (.t 185), none⟩, 0), (⟨(some 187), .move (.t 16), none⟩, 0), (⟨(some 188), .iaddr 1 (.t 186) (.t 187), none⟩, 0), (⟨(some 189), .load (.t 188), none⟩, 0), (⟨(some 190), .buildSlice 4 1 1 [(.bool false)] [(0, (.t 189))], none⟩, 0), (⟨(some 191), .append 4 1 1 (.t 184) (.t 190), none⟩, 1), (⟨(some 192), .faddr 2 (.t 15), none⟩, 1), (⟨none, .store 1 (.t 192) (.t 191), none⟩, 2)])))))))
  (.reg [⟨(some 193), .bin .add (.t 145) (.c (.int .i64 (.ofNat 1))), none⟩, ⟨(some 145), .move (.t 193), none⟩])))))))
  (.seq (.reg [⟨(some 194), .loadN 4 (.t 15), none⟩, ⟨(some 195), .call 70 [(.t 194)], none⟩, ⟨none, .store 4 (.t 2) (.t 195), none⟩])
  .ret))))))))⟩
theorem ok_machine_Minimal : cFunc Go.Proofs.Try.prog Go.Proofs.Try.f38 = some c_machine_Minimal := by kernel_rfl
abbrev n_machine_DFA : Nat := 42
def c_machine_DFA : CFunc := ⟨45, [.cells 4 2, .tmp 3], (.seq (.reg [⟨(some 1), .box 66 (.t 0), none⟩, ⟨(some 2), .alloc 32 [(.int .i64 (.ofNat 0)), (.int .i64 (.ofNat 0)), (.slice none 0 0), (.slice none 0 0)], none⟩, ⟨(some 3), .move (.c (.int .i64 (.ofNat 0))), none⟩])
  (.seq (.reg [⟨(some 8), .loadN 4 (.t 1), none⟩, ⟨(some 9), .call 38 [(.t 8)], none⟩, ⟨none, .store 4 (.t 1) (.t 9), none⟩])
  (.seq (.draw [(⟨(some 10), .faddr 0 (.t 1), none⟩, 1), (⟨(some 11), .load (.t 10), none⟩, 1), (⟨(some 12), .faddr 1 (.t 1), none⟩, 1), (⟨(some 13), .load (.t 12), none⟩, 1), (⟨(some 14), .faddr 2 (.t 1), none⟩, 0), (⟨(some 15), .load (.t 14), none⟩, 0), (⟨(some 4), .alloc 32 [(.int .i64 (.ofNat 0)), (.int .i64 (.ofNat 0)), (.slice none 0 0), (.slice none 0 0)], none⟩, 1), (⟨(some 16), .append 4 1 1 (.c (.slice none 0 0)) (.t 15), none⟩, 1), (⟨(some 17), .build [(.int .i64 (.ofNat 0)), (.int .i64 (.ofNat 0)), (.slice none 0 0), (.slice none 0 0)] [(0, 1, (.t 11)), (1, 1, (.t 13)), (2, 1, (.t 16))], none⟩, 1), (⟨none, .store 4 (.t 4) (.t 17), none⟩, 2)])
  (.seq (.seq (.reg [⟨(some 18), .faddr 3 (.t 1), none⟩, ⟨(some 19), .load (.t 18), none⟩, ⟨(some 20), .lenSl (.t 19), none⟩, ⟨(some 21), .bin .gtr (.t 20) (.c (.int .i64 (.ofNat 512))), none⟩])
  (.cond (.t 21) (.seq (.reg [⟨(some 22), .build [(.int .i64 (.ofNat 0)), (.int .i64 (.ofNat 0)), (.slice none 0 0), (.slice none 0 0)] [], none⟩, ⟨none, .store 4 (.t 2) (.t 22), none⟩, ⟨(some 3), .move (.c (.int .i64 (.ofNat 3))), none⟩])
  .ret) .skip))
  (.seq (.seq (.reg [⟨(some 23), .faddr 3 (.t 1), none⟩, ⟨(some 24), .load (.t 23), none⟩, ⟨(some 25), .lenSl (.t 24), none⟩, ⟨(some 26), .move (.c (.int .i64 (.ofNat 0))), none⟩])
  (.block 0 (.loop (.seq (.reg [⟨(some 27), .bin .lss (.t 26) (.t 25), none⟩])
  (.seq (.cond (.t 27) .skip (.exit 0))
  (.seq (.block 1 (.seq (.reg [⟨(some 28), .iaddr 1 (.t 24) (.t 26), none⟩, ⟨(some 29), .load (.t 28), none⟩, ⟨(some 6), .move (.t 29), none⟩])
  (.draw [(⟨(some 30), .faddr 3 (.t 4), none⟩, 1), (⟨(some 31), .load (.t 30), none⟩, 1), (⟨(some 32), .move (.t 6), none⟩, 0), (⟨(some 33), .append 3 1 8 (.c (.slice none 0 0)) (.t 32), none⟩, 1), (⟨(some 34), .buildSlice 22 1 1 [(.slice none 0 0)] [(0, (.t 33))], none⟩, 1), (⟨(some 35), .append 22 1 24 (.t 31) (.t 34), none⟩, 2), (⟨(some 36), .faddr 3 (.t 4), none⟩, 2), (⟨none, .store 1 (.t 36) (.t 35), none⟩, 3)])))
  (.reg [⟨(some 37), .bin .add (.t 26) (.c (.int .i64 (.ofNat 1))), none⟩, ⟨(some 26), .move (.t 37), none⟩])))))))
  (.seq (.seq (.reg [⟨(some 38), .loadN 4 (.t 4), none⟩, ⟨(some 39), .call 75 [(.t 38)], none⟩, ⟨(some 7), .move (.t 39), none⟩])
  (.seq (.reg [⟨(some 40), .move (.t 7), none⟩, ⟨(some 41), .bin .neq (.t 40) (.c (.int .i64 (.ofNat 0))), none⟩])
  (.cond (.t 41) (.seq (.reg [⟨(some 42), .build [(.int .i64 (.ofNat 0)), (.int .i64 (.ofNat 0)), (.slice none 0 0), (.slice none 0 0)] [], none⟩, ⟨(some 43), .move (.t 7), none⟩, ⟨none, .store 4 (.t 2) (.t 42), none⟩, ⟨(some 3), .move (.t 43), none⟩])
  .ret) .skip)))
  (.seq (.reg [⟨(some 44), .loadN 4 (.t 4), none⟩, ⟨none, .store 4 (.t 2) (.t 44), none⟩, ⟨(some 3), .move (.c (.int .i64 (.ofNat 0))), none⟩])
  .ret)))))))⟩
theorem ok_machine_DFA : cFunc Go.Proofs.Try.prog Go.Proofs.Try.f42 = some c_machine_DFA := by kernel_rfl
abbrev n_word_Valid : Nat := 44
def c_word_Valid : CFunc := ⟨36, [.tmp 4], (.seq (.reg [⟨(some 4), .move (.c (.bool false)), none⟩])
  (.seq (.seq (.reg [⟨(some 6), .move (.t 1), none⟩, ⟨(some 7), .bin .lss (.t 6) (.c (.int .i64 (.ofNat 1))), none⟩, ⟨(some 8), .move (.t 7), none⟩, ⟨(some 9), .move (.t 1), (some (8, false))⟩, ⟨(some 10), .bin .gtr (.t 9) (.c (.int .i64 (.ofNat 6))), (some (8, false))⟩, ⟨(some 11), .pick (.t 8) (.c (.bool true)) (.t 10), none⟩, ⟨(some 12), .move (.t 11), none⟩, ⟨(some 13), .move (.t 0), (some (12, false))⟩, ⟨(some 14), .lenStr (.t 13), (some (12, false))⟩, ⟨(some 15), .bin .gtr (.t 14) (.c (.int .i64 (.ofNat 2048))), (some (12, false))⟩, ⟨(some 16), .pick (.t 12) (.c (.bool true)) (.t 15), none⟩])
  (.cond (.t 16) (.seq (.reg [⟨(some 4), .move (.c (.bool false)), none⟩])
  .ret) .skip))
  (.seq (.seq (.reg [⟨(some 5), .move (.c (.int .i64 (.ofNat 0))), none⟩])
  (.block 0 (.loop (.seq (.seq (.reg [⟨(some 17), .move (.t 5), none⟩, ⟨(some 18), .move (.t 0), none⟩, ⟨(some 19), .lenStr (.t 18), none⟩, ⟨(some 20), .bin .lss (.t 17) (.t 19), none⟩])
  (.cond (.t 20) .skip (.exit 0)))
  (.seq (.block 1 (.seq (.reg [⟨(some 23), .move (.t 0), none⟩, ⟨(some 24), .move (.t 5), none⟩, ⟨(some 25), .idxStr (.t 23) (.t 24), none⟩, ⟨(some 26), .bin .lss (.t 25) (.c (.int .u8 (.ofNat 97))), none⟩, ⟨(some 27), .move (.t 26), none⟩, ⟨(some 28), .move (.t 0), (some (27, false))⟩, ⟨(some 29), .move (.t 5), (some (27, false))⟩, ⟨(some 30), .idxStr (.t 28) (.t 29), (some (27, false))⟩, ⟨(some 31), .bin .sub (.t 30) (.c (.int .u8 (.ofNat 97))), (some (27, false))⟩, ⟨(some 32), .conv .i64 (.t 31), (some (27, false))⟩, ⟨(some 33), .move (.t 1), (some (27, false))⟩, ⟨(some 34), .bin .geq (.t 32) (.t 33), (some (27, false))⟩, ⟨(some 35), .pick (.t 27) (.c (.bool true)) (.t 34), none⟩])
  (.cond (.t 35) (.seq (.reg [⟨(some 4), .move (.c (.bool false)), none⟩])
  .ret) .skip)))
  (.reg [⟨(some 21), .move (.t 5), none⟩, ⟨(some 22), .bin .add (.t 21) (.c (.int .i64 (.ofNat 1))), none⟩, ⟨(some 5), .move (.t 22), none⟩]))))))
  (.seq (.reg [⟨(some 4), .move (.c (.bool true)), none⟩])
  .ret))))⟩
theorem ok_word_Valid : cFunc Go.Proofs.Try.prog Go.Proofs.Try.f44 = some c_word_Valid := by kernel_rfl
abbrev n_ref01_MayLetters : Nat := 49
def c_ref01_MayLetters : CFunc := ⟨9, [.tmp 2], (.seq (.reg [⟨(some 2), .move (.c (.bool false)), none⟩])
  (.seq (.reg [⟨(some 3), .move (.t 0), none⟩, ⟨(some 4), .bin .geq (.t 3) (.c (.int .i64 (.ofNat 1))), none⟩, ⟨(some 5), .move (.t 4), none⟩, ⟨(some 6), .move (.t 0), (some (5, true))⟩, ⟨(some 7), .bin .leq (.t 6) (.c (.int .i64 (.ofNat 6))), (some (5, true))⟩, ⟨(some 8), .pick (.t 5) (.t 7) (.c (.bool false)), none⟩, ⟨(some 2), .move (.t 8), none⟩])
  .ret))⟩
theorem ok_ref01_MayLetters : cFunc Go.Proofs.Try.prog Go.Proofs.Try.f49 = some c_ref01_MayLetters := by kernel_rfl
abbrev n_ref01_Valid : Nat := 54
def c_ref01_Valid : CFunc := ⟨33, [.tmp 4], (.seq (.reg [⟨(some 4), .move (.c (.bool false)), none⟩])
  (.seq (.seq (.reg [⟨(some 6), .move (.t 1), none⟩, ⟨(some 7), .call 49 [(.t 6)], none⟩, ⟨(some 8), .not (.t 7), none⟩, ⟨(some 9), .move (.t 8), none⟩, ⟨(some 10), .move (.t 0), (some (9, false))⟩, ⟨(some 11), .lenStr (.t 10), (some (9, false))⟩, ⟨(some 12), .bin .gtr (.t 11) (.c (.int .i64 (.ofNat 2048))), (some (9, false))⟩, ⟨(some 13), .pick (.t 9) (.c (.bool true)) (.t 12), none⟩])
  (.cond (.t 13) (.seq (.reg [⟨(some 4), .move (.c (.bool false)), none⟩])
  .ret) .skip))
  (.seq (.seq (.reg [⟨(some 5), .move (.c (.int .i64 (.ofNat 0))), none⟩])
  (.block 0 (.loop (.seq (.seq (.reg [⟨(some 14), .move (.t 5), none⟩, ⟨(some 15), .move (.t 0), none⟩, ⟨(some 16), .lenStr (.t 15), none⟩, ⟨(some 17), .bin .lss (.t 14) (.t 16), none⟩])
  (.cond (.t 17) .skip (.exit 0)))
  (.seq (.block 1 (.seq (.reg [⟨(some 20), .move (.t 0), none⟩, ⟨(some 21), .move (.t 5), none⟩, ⟨(some 22), .idxStr (.t 20) (.t 21), none⟩, ⟨(some 23), .bin .lss (.t 22) (.c (.int .u8 (.ofNat 97))), none⟩, ⟨(some 24), .move (.t 23), none⟩, ⟨(some 25), .move (.t 0), (some (24, false))⟩, ⟨(some 26), .move (.t 5), (some (24, false))⟩, ⟨(some 27), .idxStr (.t 25) (.t 26), (some (24, false))⟩, ⟨(some 28), .bin .sub (.t 27) (.c (.int .u8 (.ofNat 97))), (some (24, false))⟩, ⟨(some 29), .conv .i64 (.t 28), (some (24, false))⟩, ⟨(some 30), .move (.t 1), (some (24, false))⟩, ⟨(some 31), .bin .geq (.t 29) (.t 30), (some (24, false))⟩, ⟨(some 32), .pick (.t 24) (.c (.bool true)) (.t 31), none⟩])
  (.cond (.t 32) (.seq (.reg [⟨(some 4), .move (.c (.bool false)), none⟩])
  .ret) .skip)))
  (.reg [⟨(some 18), .move (.t 5), none⟩, ⟨(some 19), .bin .add (.t 18) (.c (.int .i64 (.ofNat 1))), none⟩, ⟨(some 5), .move (.t 19), none⟩]))))))
  (.seq (.reg [⟨(some 4), .move (.c (.bool true)), none⟩])
  .ret))))⟩
theorem ok_ref01_Valid : cFunc Go.Proofs.Try.prog Go.Proofs.Try.f54 = some c_ref01_Valid := by kernel_rfl
abbrev n_counting_next : Nat := 60
def c_counting_next : CFunc := ⟨75, [.tmp 6], (.seq (.reg [⟨(some 3), .box 53 (.t 0), none⟩, ⟨(some 6), .move (.c (.int .i64 (.ofNat 0))), none⟩])
  (.seq (.reg [⟨(some 7), .move (.c (.int .i64 (.ofNat 1))), none⟩])
  (.seq (.seq (.reg [⟨(some 10), .faddr 0 (.t 3), none⟩, ⟨(some 11), .load (.t 10), none⟩, ⟨(some 12), .lenSl (.t 11), none⟩, ⟨(some 13), .bin .sub (.t 12) (.c (.int .i64 (.ofNat 1))), none⟩, ⟨(some 8), .move (.t 13), none⟩])
  (.block 0 (.loop (.seq (.seq (.reg [⟨(some 14), .move (.t 8), none⟩, ⟨(some 15), .move (.t 2), none⟩, ⟨(some 16), .bin .gtr (.t 14) (.t 15), none⟩])
  (.cond (.t 16) .skip (.exit 0)))
  (.seq (.block 1 (.draw [(⟨(some 19), .move (.t 7), none⟩, 0), (⟨(some 20), .faddr 0 (.t 3), none⟩, 0), (⟨(some 21), .load (.t 20), none⟩, 0), (⟨(some 22), .move (.t 8), none⟩, 0), (⟨(some 23), .iaddr 1 (.t 21) (.t 22), none⟩, 0), (⟨(some 24), .load (.t 23), none⟩, 0), (⟨(some 25), .faddr 1 (.t 3), none⟩, 0), (⟨(some 26), .load (.t 25), none⟩, 0), (⟨(some 27), .move (.t 8), none⟩, 0), (⟨(some 28), .iaddr 1 (.t 26) (.t 27), none⟩, 0), (⟨(some 29), .load (.t 28), none⟩, 0), (⟨(some 30), .bin .add (.t 24) (.t 29), none⟩, 0), (⟨(some 31), .bin .mul (.t 19) (.t 30), none⟩, 0), (⟨(some 7), .move (.t 31), none⟩, 0)]))
  (.reg [⟨(some 17), .move (.t 8), none⟩, ⟨(some 18), .bin .sub (.t 17) (.c (.int .i64 (.ofNat 1))), none⟩, ⟨(some 8), .move (.t 18), none⟩]))))))
  (.seq (.draw [(⟨(some 32), .move (.t 1), none⟩, 0), (⟨(some 33), .move (.t 7), none⟩, 0), (⟨(some 34), .bin .quo (.t 32) (.t 33), none⟩, 0), (⟨(some 35), .faddr 0 (.t 3), none⟩, 0), (⟨(some 36), .load (.t 35), none⟩, 0), (⟨(some 37), .move (.t 2), none⟩, 0), (⟨(some 38), .iaddr 1 (.t 36) (.t 37), none⟩, 0), (⟨(some 39), .load (.t 38), none⟩, 0), (⟨(some 40), .faddr 1 (.t 3), none⟩, 0), (⟨(some 41), .load (.t 40), none⟩, 0), (⟨(some 42), .move (.t 2), none⟩, 0), (⟨(some 43), .iaddr 1 (.t 41) (.t 42), none⟩, 0), (⟨(some 44), .load (.t 43), none⟩, 0), (⟨(some 45), .bin .add (.t 39) (.t 44), none⟩, 0), (⟨(some 46), .bin .rem (.t 34) (.t 45), none⟩, 0), (⟨(some 9), .move (.t 46), none⟩, 0)])
  (.seq (.seq (.draw [(⟨(some 47), .move (.t 9), none⟩, 0), (⟨(some 48), .bin .add (.t 47) (.c (.int .i64 (.ofNat 1))), none⟩, 0), (⟨(some 49), .faddr 0 (.t 3), none⟩, 0), (⟨(some 50), .load (.t 49), none⟩, 0), (⟨(some 51), .move (.t 2), none⟩, 0), (⟨(some 52), .iaddr 1 (.t 50) (.t 51), none⟩, 0), (⟨(some 53), .load (.t 52), none⟩, 0), (⟨(some 54), .faddr 1 (.t 3), none⟩, 0), (⟨(some 55), .load (.t 54), none⟩, 0), (⟨(some 56), .move (.t 2), none⟩, 0), (⟨(some 57), .iaddr 1 (.t 55) (.t 56), none⟩, 0), (⟨(some 58), .load (.t 57), none⟩, 0), (⟨(some 59), .bin .add (.t 53) (.t 58), none⟩, 0), (⟨(some 60), .bin .eql (.t 48) (.t 59), none⟩, 0)])
  (.cond (.t 60) (.seq (.reg [⟨(some 61), .move (.t 1), none⟩, ⟨(some 62), .move (.t 9), none⟩, ⟨(some 63), .faddr 0 (.t 3), none⟩, ⟨(some 64), .load (.t 63), none⟩, ⟨(some 65), .move (.t 2), none⟩, ⟨(some 66), .iaddr 1 (.t 64) (.t 65), none⟩, ⟨(some 67), .load (.t 66), none⟩, ⟨(some 68), .bin .sub (.t 62) (.t 67), none⟩, ⟨(some 69), .move (.t 7), none⟩, ⟨(some 70), .bin .mul (.t 68) (.t 69), none⟩, ⟨(some 71), .bin .sub (.t 61) (.t 70), none⟩, ⟨(some 6), .move (.t 71), none⟩])
  .ret) .skip))
  (.seq (.reg [⟨(some 72), .move (.t 1), none⟩, ⟨(some 73), .move (.t 7), none⟩, ⟨(some 74), .bin .add (.t 72) (.t 73), none⟩, ⟨(some 6), .move (.t 74), none⟩])
  .ret))))))⟩
theorem ok_counting_next : cFunc Go.Proofs.Try.prog Go.Proofs.Try.f60 = some c_counting_next := by kernel_rfl
abbrev n_counting_Dfa : Nat := 64
def c_counting_Dfa : CFunc := ⟨55, [.cells 4 2, .tmp 3], (.seq (.reg [⟨(some 1), .box 53 (.t 0), none⟩, ⟨(some 2), .alloc 32 [(.int .i64 (.ofNat 0)), (.int .i64 (.ofNat 0)), (.slice none 0 0), (.slice none 0 0)], none⟩, ⟨(some 3), .move (.c (.int .i64 (.ofNat 0))), none⟩])
  (.seq (.seq (.reg [⟨(some 9), .loadN 3 (.t 1), none⟩, ⟨(some 10), .call 26 [(.t 9)], none⟩, ⟨(some 4), .move (.t 10), none⟩])
  (.seq (.reg [⟨(some 11), .move (.t 4), none⟩, ⟨(some 12), .bin .neq (.t 11) (.c (.int .i64 (.ofNat 0))), none⟩])
  (.cond (.t 12) (.seq (.reg [⟨(some 13), .build [(.int .i64 (.ofNat 0)), (.int .i64 (.ofNat 0)), (.slice none 0 0), (.slice none 0 0)] [], none⟩, ⟨(some 14), .move (.t 4), none⟩, ⟨none, .store 4 (.t 2) (.t 13), none⟩, ⟨(some 3), .move (.t 14), none⟩])
  .ret) .skip)))
  (.seq (.reg [⟨(some 15), .faddr 0 (.t 1), none⟩, ⟨(some 16), .load (.t 15), none⟩, ⟨(some 17), .lenSl (.t 16), none⟩, ⟨(some 18), .faddr 2 (.t 1), none⟩, ⟨(some 19), .load (.t 18), none⟩, ⟨(some 20), .build [(.int .i64 (.ofNat 0)), (.int .i64 (.ofNat 0)), (.slice none 0 0), (.slice none 0 0)] [(0, 1, (.t 17)), (2, 1, (.t 19))], none⟩, ⟨(some 5), .alloc 66 [(.int .i64 (.ofNat 0)), (.int .i64 (.ofNat 0)), (.slice none 0 0), (.slice none 0 0)], none⟩, ⟨none, .store 4 (.t 5) (.t 20), none⟩])
  (.seq (.seq (.reg [⟨(some 21), .faddr 2 (.t 1), none⟩, ⟨(some 22), .load (.t 21), none⟩, ⟨(some 23), .lenSl (.t 22), none⟩, ⟨(some 24), .move (.c (.int .i64 (.ofNat 0))), none⟩])
  (.block 0 (.loop (.seq (.reg [⟨(some 25), .bin .lss (.t 24) (.t 23), none⟩])
  (.seq (.cond (.t 25) .skip (.exit 0))
  (.seq (.block 1 (.seq (.reg [⟨(some 26), .move (.t 24), none⟩, ⟨(some 6), .move (.t 26), none⟩])
  (.seq (.reg [⟨(some 27), .faddr 0 (.t 1), none⟩, ⟨(some 28), .load (.t 27), none⟩, ⟨(some 29), .lenSl (.t 28), none⟩, ⟨(some 30), .mkSlice 3 8 1 [(.int .i64 (.ofNat 0))] (.t 29) (.t 29), none⟩, ⟨(some 7), .move (.t 30), none⟩])
  (.seq (.seq (.reg [⟨(some 31), .move (.t 7), none⟩, ⟨(some 32), .lenSl (.t 31), none⟩, ⟨(some 33), .move (.c (.int .i64 (.ofNat 0))), none⟩])
  (.block 2 (.loop (.seq (.reg [⟨(some 34), .bin .lss (.t 33) (.t 32), none⟩])
  (.seq (.cond (.t 34) .skip (.exit 2))
  (.seq (.block 3 (.seq (.reg [⟨(some 35), .move (.t 33), none⟩, ⟨(some 8), .move (.t 35), none⟩])
  (.reg [⟨(some 36), .move (.t 7), none⟩, ⟨(some 37), .move (.t 8), none⟩, ⟨(some 38), .loadN 3 (.t 1), none⟩, ⟨(some 39), .move (.t 6), none⟩, ⟨(some 40), .move (.t 8), none⟩, ⟨(some 41), .call 60 [(.t 38), (.t 39), (.t 40)], none⟩, ⟨(some 42), .iaddr 1 (.t 36) (.t 37), none⟩, ⟨none, .store 1 (.t 42) (.t 41), none⟩])))
  (.reg [⟨(some 43), .bin .add (.t 33) (.c (.int .i64 (.ofNat 1))), none⟩, ⟨(some 33), .move (.t 43), none⟩])))))))
  (.reg [⟨(some 44), .faddr 3 (.t 5), none⟩, ⟨(some 45), .load (.t 44), none⟩, ⟨(some 46), .move (.t 7), none⟩, ⟨(some 47), .buildSlice 22 1 1 [(.slice none 0 0)] [(0, (.t 46))], none⟩, ⟨(some 48), .append 22 1 24 (.t 45) (.t 47), none⟩, ⟨(some 49), .faddr 3 (.t 5), none⟩, ⟨none, .store 1 (.t 49) (.t 48), none⟩])))))
  (.reg [⟨(some 50), .bin .add (.t 24) (.c (.int .i64 (.ofNat 1))), none⟩, ⟨(some 24), .move (.t 50), none⟩])))))))
  (.seq (.reg [⟨(some 51), .loadN 4 (.t 5), none⟩, ⟨(some 52), .call 42 [(.t 51)], none⟩, ⟨(some 53), .extract 0 (.t 52), none⟩, ⟨(some 54), .extract 1 (.t 52), none⟩, ⟨none, .store 4 (.t 2) (.t 53), none⟩, ⟨(some 3), .move (.t 54), none⟩])
  .ret)))))⟩
theorem ok_counting_Dfa : cFunc Go.Proofs.Try.prog Go.Proofs.Try.f64 = some c_counting_Dfa := by kernel_rfl
abbrev n_ref37_Dfa : Nat := 65
def c_ref37_Dfa : CFunc := ⟨109, [.cells 4 2, .tmp 3], (.seq (.reg [⟨(some 1), .box 53 (.t 0), none⟩, ⟨(some 2), .alloc 32 [(.int .i64 (.ofNat 0)), (.int .i64 (.ofNat 0)), (.slice none 0 0), (.slice none 0 0)], none⟩, ⟨(some 3), .move (.c (.int .i64 (.ofNat 0))), none⟩])
  (.seq (.seq (.reg [⟨(some 15), .loadN 3 (.t 1), none⟩, ⟨(some 16), .call 27 [(.t 15)], none⟩, ⟨(some 4), .move (.t 16), none⟩])
  (.seq (.reg [⟨(some 17), .move (.t 4), none⟩, ⟨(some 18), .bin .neq (.t 17) (.c (.int .i64 (.ofNat 0))), none⟩])
  (.cond (.t 18) (.seq (.reg [⟨(some 19), .build [(.int .i64 (.ofNat 0)), (.int .i64 (.ofNat 0)), (.slice none 0 0), (.slice none 0 0)] [], none⟩, ⟨(some 20), .move (.t 4), none⟩, ⟨none, .store 4 (.t 2) (.t 19), none⟩, ⟨(some 3), .move (.t 20), none⟩])
  .ret) .skip)))
  (.seq (.reg [⟨(some 21), .faddr 0 (.t 1), none⟩, ⟨(some 22), .load (.t 21), none⟩, ⟨(some 23), .lenSl (.t 22), none⟩, ⟨(some 5), .move (.t 23), none⟩])
  (.seq (.reg [⟨(some 24), .move (.t 5), none⟩, ⟨(some 25), .build [(.int .i64 (.ofNat 0)), (.int .i64 (.ofNat 0)), (.slice none 0 0), (.slice none 0 0)] [(0, 1, (.t 24))], none⟩, ⟨(some 6), .alloc 32 [(.int .i64 (.ofNat 0)), (.int .i64 (.ofNat 0)), (.slice none 0 0), (.slice none 0 0)], none⟩, ⟨none, .store 4 (.t 6) (.t 25), none⟩])
  (.seq (.seq (.reg [⟨(some 26), .faddr 2 (.t 1), none⟩, ⟨(some 27), .load (.t 26), none⟩, ⟨(some 28), .lenSl (.t 27), none⟩, ⟨(some 29), .move (.c (.int .i64 (.ofNat 0))), none⟩])
  (.block 0 (.loop (.seq (.reg [⟨(some 30), .bin .lss (.t 29) (.t 28), none⟩])
  (.seq (.cond (.t 30) .skip (.exit 0))
  (.seq (.block 1 (.seq (.reg [⟨(some 31), .move (.t 29), none⟩, ⟨(some 7), .move (.t 31), none⟩])
  (.seq (.reg [⟨(some 32), .move (.t 5), none⟩, ⟨(some 33), .mkSlice 3 8 1 [(.int .i64 (.ofNat 0))] (.t 32) (.t 32), none⟩, ⟨(some 34), .move (.t 7), none⟩, ⟨(some 8), .move (.t 33), none⟩, ⟨(some 9), .move (.t 34), none⟩])
  (.seq (.seq (.reg [⟨(some 35), .move (.t 5), none⟩, ⟨(some 36), .bin .sub (.t 35) (.c (.int .i64 (.ofNat 1))), none⟩, ⟨(some 10), .move (.t 36), none⟩])
  (.block 2 (.loop (.seq (.seq (.reg [⟨(some 37), .move (.t 10), none⟩, ⟨(some 38), .bin .geq (.t 37) (.c (.int .i64 (.ofNat 0))), none⟩])
  (.cond (.t 38) .skip (.exit 2)))
  (.seq (.block 3 (.seq (.draw [(⟨(some 41), .faddr 0 (.t 1), none⟩, 0), (⟨(some 42), .load (.t 41), none⟩, 0), (⟨(some 43), .move (.t 10), none⟩, 0), (⟨(some 44), .iaddr 1 (.t 42) (.t 43), none⟩, 0), (⟨(some 45), .load (.t 44), none⟩, 0), (⟨(some 46), .faddr 1 (.t 1), none⟩, 0), (⟨(some 47), .load (.t 46), none⟩, 0), (⟨(some 48), .move (.t 10), none⟩, 0), (⟨(some 49), .iaddr 1 (.t 47) (.t 48), none⟩, 0), (⟨(some 50), .load (.t 49), none⟩, 0), (⟨(some 51), .bin .add (.t 45) (.t 50), none⟩, 0), (⟨(some 11), .move (.t 51), none⟩, 0)])
  (.draw [(⟨(some 52), .move (.t 8), none⟩, 0), (⟨(some 53), .move (.t 10), none⟩, 0), (⟨(some 54), .move (.t 9), none⟩, 0), (⟨(some 55), .move (.t 11), none⟩, 0), (⟨(some 56), .bin .rem (.t 54) (.t 55), none⟩, 0), (⟨(some 57), .move (.t 9), none⟩, 1), (⟨(some 58), .move (.t 11), none⟩, 1), (⟨(some 59), .bin .quo (.t 57) (.t 58), none⟩, 1), (⟨(some 60), .iaddr 1 (.t 52) (.t 53), none⟩, 0), (⟨none, .store 1 (.t 60) (.t 56), none⟩, 1), (⟨(some 9), .move (.t 59), none⟩, 1)])))
  (.reg [⟨(some 39), .move (.t 10), none⟩, ⟨(some 40), .bin .sub (.t 39) (.c (.int .i64 (.ofNat 1))), none⟩, ⟨(some 10), .move (.t 40), none⟩]))))))
  (.seq (.reg [⟨(some 12), .move (.c (.slice none 0 0)), none⟩])
  (.seq (.seq (.reg [⟨(some 13), .move (.c (.int .i64 (.ofNat 0))), none⟩])
  (.block 4 (.loop (.seq (.seq (.reg [⟨(some 61), .move (.t 13), none⟩, ⟨(some 62), .move (.t 5), none⟩, ⟨(some 63), .bin .lss (.t 61) (.t 62), none⟩])
  (.cond (.t 63) .skip (.exit 4)))
  (.seq (.block 5 (.seq (.reg [⟨(some 66), .move (.t 8), none⟩, ⟨(some 67), .move (.t 13), none⟩, ⟨(some 68), .iaddr 1 (.t 66) (.t 67), none⟩, ⟨(some 69), .load (.t 68), none⟩, ⟨(some 70), .bin .add (.t 69) (.c (.int .i64 (.ofNat 1))), none⟩, ⟨(some 71), .iaddr 1 (.t 66) (.t 67), none⟩, ⟨none, .store 1 (.t 71) (.t 70), none⟩])
  (.seq (.reg [⟨(some 72), .move (.t 12), none⟩, ⟨(some 73), .loadN 3 (.t 1), none⟩, ⟨(some 74), .move (.t 8), none⟩, ⟨(some 75), .call 69 [(.t 73), (.t 74)], none⟩, ⟨(some 76), .buildSlice 3 1 1 [(.int .i64 (.ofNat 0))] [(0, (.t 75))], none⟩, ⟨(some 77), .append 3 1 8 (.t 72) (.t 76), none⟩, ⟨(some 12), .move (.t 77), none⟩])
  (.reg [⟨(some 78), .move (.t 8), none⟩, ⟨(some 79), .move (.t 13), none⟩, ⟨(some 80), .iaddr 1 (.t 78) (.t 79), none⟩, ⟨(some 81), .load (.t 80), none⟩, ⟨(some 82), .bin .sub (.t 81) (.c (.int .i64 (.ofNat 1))), none⟩, ⟨(some 83), .iaddr 1 (.t 78) (.t 79), none⟩, ⟨none, .store 1 (.t 83) (.t 82), none⟩]))))
  (.reg [⟨(some 64), .move (.t 13), none⟩, ⟨(some 65), .bin .add (.t 64) (.c (.int .i64 (.ofNat 1))), none⟩, ⟨(some 13), .move (.t 65), none⟩]))))))
  (.draw [(⟨(some 84), .faddr 2 (.t 6), none⟩, 0), (⟨(some 85), .load (.t 84), none⟩, 0), (⟨(some 86), .faddr 2 (.t 1), none⟩, 0), (⟨(some 87), .load (.t 86), none⟩, 0), (⟨(some 88), .move (.t 7), none⟩, 0), (⟨(some 89), .iaddr 1 (.t 87) (.t 88), none⟩, 0), (⟨(some 90), .load (.t 89), none⟩, 0), (⟨(some 91), .buildSlice 4 1 1 [(.bool false)] [(0, (.t 90))], none⟩, 0), (⟨(some 93), .faddr 3 (.t 6), none⟩, 1), (⟨(some 94), .load (.t 93), none⟩, 1), (⟨(some 95), .move (.t 12), none⟩, 1), (⟨(some 96), .buildSlice 22 1 1 [(.slice none 0 0)] [(0, (.t 95))], none⟩, 1), (⟨(some 92), .append 4 1 1 (.t 85) (.t 91), none⟩, 1), (⟨(some 98), .faddr 2 (.t 6), none⟩, 2), (⟨(some 97), .append 22 1 24 (.t 94) (.t 96), none⟩, 2), (⟨none, .store 1 (.t 98) (.t 92), none⟩, 3), (⟨(some 99), .faddr 3 (.t 6), none⟩, 3), (⟨none, .store 1 (.t 99) (.t 97), none⟩, 4)])))))))
  (.reg [⟨(some 100), .bin .add (.t 29) (.c (.int .i64 (.ofNat 1))), none⟩, ⟨(some 29), .move (.t 100), none⟩])))))))
  (.seq (.reg [⟨(some 101), .loadN 4 (.t 6), none⟩, ⟨(some 102), .call 92 [(.t 101)], none⟩, ⟨(some 14), .alloc 32 [(.int .i64 (.ofNat 0)), (.int .i64 (.ofNat 0)), (.slice none 0 0), (.slice none 0 0)], none⟩, ⟨none, .store 4 (.t 14) (.t 102), none⟩])
  (.seq (.seq (.reg [⟨(some 103), .faddr 2 (.t 14), none⟩, ⟨(some 104), .load (.t 103), none⟩, ⟨(some 105), .lenSl (.t 104), none⟩, ⟨(some 106), .bin .gtr (.t 105) (.c (.int .i64 (.ofNat 512))), none⟩])
  (.cond (.t 106) (.seq (.reg [⟨(some 107), .build [(.int .i64 (.ofNat 0)), (.int .i64 (.ofNat 0)), (.slice none 0 0), (.slice none 0 0)] [], none⟩, ⟨none, .store 4 (.t 2) (.t 107), none⟩, ⟨(some 3), .move (.c (.int .i64 (.ofNat 3))), none⟩])
  .ret) .skip))
  (.seq (.reg [⟨(some 108), .loadN 4 (.t 14), none⟩, ⟨none, .store 4 (.t 2) (.t 108), none⟩, ⟨(some 3), .move (.c (.int .i64 (.ofNat 0))), none⟩])
  .ret))))))))⟩
theorem ok_ref37_Dfa : cFunc Go.Proofs.Try.prog Go.Proofs.Try.f65 = some c_ref37_Dfa := by kernel_rfl
abbrev n_ref07_Same : Nat := 66
def c_ref07_Same : CFunc := ⟨103, [.tmp 4], (.seq (.reg [⟨(some 2), .box 32 (.t 0), none⟩, ⟨(some 3), .box 32 (.t 1), none⟩, ⟨(some 4), .move (.c (.bool false)), none⟩])
  (.seq (.seq (.reg [⟨(some 8), .faddr 0 (.t 2), none⟩, ⟨(some 9), .load (.t 8), none⟩, ⟨(some 10), .faddr 0 (.t 3), none⟩, ⟨(some 11), .load (.t 10), none⟩, ⟨(some 12), .bin .neq (.t 9) (.t 11), none⟩, ⟨(some 13), .move (.t 12), none⟩, ⟨(some 14), .faddr 1 (.t 2), (some (13, false))⟩, ⟨(some 15), .load (.t 14), (some (13, false))⟩, ⟨(some 16), .faddr 1 (.t 3), (some (13, false))⟩, ⟨(some 17), .load (.t 16), (some (13, false))⟩, ⟨(some 18), .bin .neq (.t 15) (.t 17), (some (13, false))⟩, ⟨(some 19), .pick (.t 13) (.c (.bool true)) (.t 18), none⟩, ⟨(some 20), .move (.t 19), none⟩, ⟨(some 21), .faddr 2 (.t 2), (some (20, false))⟩, ⟨(some 22), .load (.t 21), (some (20, false))⟩, ⟨(some 23), .lenSl (.t 22), (some (20, false))⟩, ⟨(some 24), .faddr 2 (.t 3), (some (20, false))⟩, ⟨(some 25), .load (.t 24), (some (20, false))⟩, ⟨(some 26), .lenSl (.t 25), (some (20, false))⟩, ⟨(some 27), .bin .neq (.t 23) (.t 26), (some (20, false))⟩, ⟨(some 28), .pick (.t 20) (.c (.bool true)) (.t 27), none⟩, ⟨(some 29), .move (.t 28), none⟩, ⟨(some 30), .faddr 3 (.t 2), (some (29, false))⟩, ⟨(some 31), .load (.t 30), (some (29, false))⟩, ⟨(some 32), .lenSl (.t 31), (some (29, false))⟩, ⟨(some 33), .faddr 3 (.t 3), (some (29, false))⟩, ⟨(some 34), .load (.t 33), (some (29, false))⟩, ⟨(some 35), .lenSl (.t 34), (some (29, false))⟩, ⟨(some 36), .bin .neq (.t 32) (.t 35), (some (29, false))⟩, ⟨(some 37), .pick (.t 29) (.c (.bool true)) (.t 36), none⟩])
  (.cond (.t 37) (.seq (.reg [⟨(some 4), .move (.c (.bool false)), none⟩])
  .ret) .skip))
  (.seq (.seq (.reg [⟨(some 38), .faddr 2 (.t 2), none⟩, ⟨(some 39), .load (.t 38), none⟩, ⟨(some 40), .lenSl (.t 39), none⟩, ⟨(some 41), .move (.c (.int .i64 (.ofNat 0))), none⟩])
  (.block 0 (.loop (.seq (.reg [⟨(some 42), .bin .lss (.t 41) (.t 40), none⟩])
  (.seq (.cond (.t 42) .skip (.exit 0))
  (.seq (.block 1 (.seq (.reg [⟨(some 43), .move (.t 41), none⟩, ⟨(some 5), .move (.t 43), none⟩])
  (.seq (.draw [(⟨(some 44), .faddr 2 (.t 2), none⟩, 0), (⟨(some 45), .load (.t 44), none⟩, 0), (⟨(some 46), .move (.t 5), none⟩, 0), (⟨(some 47), .iaddr 1 (.t 45) (.t 46), none⟩, 0), (⟨(some 48), .load (.t 47), none⟩, 0), (⟨(some 49), .faddr 2 (.t 3), none⟩, 0), (⟨(some 50), .load (.t 49), none⟩, 0), (⟨(some 51), .move (.t 5), none⟩, 0), (⟨(some 52), .iaddr 1 (.t 50) (.t 51), none⟩, 0), (⟨(some 53), .load (.t 52), none⟩, 0), (⟨(some 54), .eqB true (.t 48) (.t 53), none⟩, 0)])
  (.cond (.t 54) (.seq (.reg [⟨(some 4), .move (.c (.bool false)), none⟩])
  .ret) .skip))))
  (.reg [⟨(some 55), .bin .add (.t 41) (.c (.int .i64 (.ofNat 1))), none⟩, ⟨(some 41), .move (.t 55), none⟩])))))))
  (.seq (.seq (.reg [⟨(some 56), .faddr 3 (.t 2), none⟩, ⟨(some 57), .load (.t 56), none⟩, ⟨(some 58), .lenSl (.t 57), none⟩, ⟨(some 59), .move (.c (.int .i64 (.ofNat 0))), none⟩])
  (.block 2 (.loop (.seq (.reg [⟨(some 60), .bin .lss (.t 59) (.t 58), none⟩])
  (.seq (.cond (.t 60) .skip (.exit 2))
  (.seq (.block 3 (.seq (.reg [⟨(some 61), .move (.t 59), none⟩, ⟨(some 6), .move (.t 61), none⟩])
  (.seq (.seq (.draw [(⟨(some 62), .faddr 3 (.t 2), none⟩, 0), (⟨(some 63), .load (.t 62), none⟩, 0), (⟨(some 64), .move (.t 6), none⟩, 0), (⟨(some 65), .iaddr 1 (.t 63) (.t 64), none⟩, 0), (⟨(some 66), .load (.t 65), none⟩, 0), (⟨(some 67), .lenSl (.t 66), none⟩, 0), (⟨(some 68), .faddr 3 (.t 3), none⟩, 0), (⟨(some 69), .load (.t 68), none⟩, 0), (⟨(some 70), .move (.t 6), none⟩, 0), (⟨(some 71), .iaddr 1 (.t 69) (.t 70), none⟩, 0), (⟨(some 72), .load (.t 71), none⟩, 0), (⟨(some 73), .lenSl (.t 72), none⟩, 0), (⟨(some 74), .bin .neq (.t 67) (.t 73), none⟩, 0)])
  (.cond (.t 74) (.seq (.reg [⟨(some 4), .move (.c (.bool false)), none⟩])
  .ret) .skip))
  (.seq (.reg [⟨(some 75), .faddr 3 (.t 2), none⟩, ⟨(some 76), .load (.t 75), none⟩, ⟨(some 77), .move (.t 6), none⟩, ⟨(some 78), .iaddr 1 (.t 76) (.t 77), none⟩, ⟨(some 79), .load (.t 78), none⟩, ⟨(some 80), .lenSl (.t 79), none⟩, ⟨(some 81), .move (.c (.int .i64 (.ofNat 0))), none⟩])
  (.block 4 (.loop (.seq (.reg [⟨(some 82), .bin .lss (.t 81) (.t 80), none⟩])
  (.seq (.cond (.t 82) .skip (.exit 4))
  (.seq (.block 5 (.seq (.reg [⟨(some 83), .move (.t 81), none⟩, ⟨(some 7), .move (.t 83), none⟩])
  (.seq (.draw [(⟨(some 84), .faddr 3 (.t 2), none⟩, 0), (⟨(some 85), .load (.t 84), none⟩, 0), (⟨(some 86), .move (.t 6), none⟩, 0), (⟨(some 87), .iaddr 1 (.t 85) (.t 86), none⟩, 0), (⟨(some 88), .load (.t 87), none⟩, 0), (⟨(some 89), .move (.t 7), none⟩, 0), (⟨(some 90), .iaddr 1 (.t 88) (.t 89), none⟩, 0), (⟨(some 91), .load (.t 90), none⟩, 0), (⟨(some 92), .faddr 3 (.t 3), none⟩, 0), (⟨(some 93), .load (.t 92), none⟩, 0), (⟨(some 94), .move (.t 6), none⟩, 0), (⟨(some 95), .iaddr 1 (.t 93) (.t 94), none⟩, 0), (⟨(some 96), .load (.t 95), none⟩, 0), (⟨(some 97), .move (.t 7), none⟩, 0), (⟨(some 98), .iaddr 1 (.t 96) (.t 97), none⟩, 0), (⟨(some 99), .load (.t 98), none⟩, 0), (⟨(some 100), .bin .neq (.t 91) (.t 99), none⟩, 0)])
  (.cond (.t 100) (.seq (.reg [⟨(some 4), .move (.c (.bool false)), none⟩])
  .ret) .skip))))
  (.reg [⟨(some 101), .bin .add (.t 81) (.c (.int .i64 (.ofNat 1))), none⟩, ⟨(some 81), .move (.t 101), none⟩]))))))))))
  (.reg [⟨(some 102), .bin .add (.t 59) (.c (.int .i64 (.ofNat 1))), none⟩, ⟨(some 59), .move (.t 102), none⟩])))))))
  (.seq (.reg [⟨(some 4), .move (.c (.bool true)), none⟩])
  .ret)))))⟩
theorem ok_ref07_Same : cFunc Go.Proofs.Try.prog Go.Proofs.Try.f66 = some c_ref07_Same := by kernel_rfl
abbrev n_counting_size : Nat := 67
def c_counting_size : CFunc := ⟨38, [.tmp 4], (.seq (.reg [⟨(some 4), .move (.c (.int .i64 (.ofNat 0))), none⟩])
  (.seq (.reg [⟨(some 5), .move (.c (.int .i64 (.ofNat 1))), none⟩])
  (.seq (.seq (.reg [⟨(some 7), .move (.t 0), none⟩, ⟨(some 8), .lenSl (.t 7), none⟩, ⟨(some 9), .move (.c (.int .i64 (.ofNat 0))), none⟩])
  (.block 0 (.loop (.seq (.reg [⟨(some 10), .bin .lss (.t 9) (.t 8), none⟩])
  (.seq (.cond (.t 10) .skip (.exit 0))
  (.seq (.block 1 (.seq (.reg [⟨(some 11), .move (.t 9), none⟩, ⟨(some 6), .move (.t 11), none⟩])
  (.seq (.seq (.reg [⟨(some 12), .move (.t 0), none⟩, ⟨(some 13), .move (.t 6), none⟩, ⟨(some 14), .iaddr 1 (.t 12) (.t 13), none⟩, ⟨(some 15), .load (.t 14), none⟩, ⟨(some 16), .bin .gtr (.t 15) (.c (.int .i64 (.ofNat 2000))), none⟩, ⟨(some 17), .move (.t 16), none⟩, ⟨(some 18), .move (.t 1), (some (17, false))⟩, ⟨(some 19), .move (.t 6), (some (17, false))⟩, ⟨(some 20), .iaddr 1 (.t 18) (.t 19), (some (17, false))⟩, ⟨(some 21), .load (.t 20), (some (17, false))⟩, ⟨(some 22), .bin .gtr (.t 21) (.c (.int .i64 (.ofNat 2000))), (some (17, false))⟩, ⟨(some 23), .pick (.t 17) (.c (.bool true)) (.t 22), none⟩])
  (.cond (.t 23) (.seq (.reg [⟨(some 4), .move (.c (.int .i64 (.ofNat 2001))), none⟩])
  .ret) .skip))
  (.draw [(⟨(some 24), .move (.t 5), none⟩, 0), (⟨(some 25), .move (.t 0), none⟩, 0), (⟨(some 26), .move (.t 6), none⟩, 0), (⟨(some 27), .iaddr 1 (.t 25) (.t 26), none⟩, 0), (⟨(some 28), .load (.t 27), none⟩, 0), (⟨(some 29), .move (.t 1), none⟩, 0), (⟨(some 30), .move (.t 6), none⟩, 0), (⟨(some 31), .iaddr 1 (.t 29) (.t 30), none⟩, 0), (⟨(some 32), .load (.t 31), none⟩, 0), (⟨(some 33), .bin .add (.t 28) (.t 32), none⟩, 0), (⟨(some 34), .bin .mul (.t 24) (.t 33), none⟩, 0), (⟨(some 35), .most true (.t 34) (.c (.int .i64 (.ofNat 2001))), none⟩, 0), (⟨(some 5), .move (.t 35), none⟩, 0)]))))
  (.reg [⟨(some 36), .bin .add (.t 9) (.c (.int .i64 (.ofNat 1))), none⟩, ⟨(some 9), .move (.t 36), none⟩])))))))
  (.seq (.reg [⟨(some 37), .move (.t 5), none⟩, ⟨(some 4), .move (.t 37), none⟩])
  .ret))))⟩
theorem ok_counting_size : cFunc Go.Proofs.Try.prog Go.Proofs.Try.f67 = some c_counting_size := by kernel_rfl
abbrev n_ref37_Size : Nat := 68
def c_ref37_Size : CFunc := ⟨43, [.tmp 2, .tmp 3], (.seq (.reg [⟨(some 1), .box 53 (.t 0), none⟩, ⟨(some 2), .move (.c (.int .i64 (.ofNat 0))), none⟩, ⟨(some 3), .move (.c (.bool false)), none⟩])
  (.seq (.reg [⟨(some 4), .move (.c (.int .i64 (.ofNat 1))), none⟩])
  (.seq (.seq (.reg [⟨(some 6), .faddr 0 (.t 1), none⟩, ⟨(some 7), .load (.t 6), none⟩, ⟨(some 8), .lenSl (.t 7), none⟩, ⟨(some 9), .move (.c (.int .i64 (.ofNat 0))), none⟩])
  (.block 0 (.loop (.seq (.reg [⟨(some 10), .bin .lss (.t 9) (.t 8), none⟩])
  (.seq (.cond (.t 10) .skip (.exit 0))
  (.seq (.block 1 (.seq (.reg [⟨(some 11), .move (.t 9), none⟩, ⟨(some 5), .move (.t 11), none⟩])
  (.seq (.seq (.reg [⟨(some 12), .faddr 0 (.t 1), none⟩, ⟨(some 13), .load (.t 12), none⟩, ⟨(some 14), .move (.t 5), none⟩, ⟨(some 15), .iaddr 1 (.t 13) (.t 14), none⟩, ⟨(some 16), .load (.t 15), none⟩, ⟨(some 17), .bin .gtr (.t 16) (.c (.int .i64 (.ofNat 2000))), none⟩, ⟨(some 18), .move (.t 17), none⟩, ⟨(some 19), .faddr 1 (.t 1), (some (18, false))⟩, ⟨(some 20), .load (.t 19), (some (18, false))⟩, ⟨(some 21), .move (.t 5), (some (18, false))⟩, ⟨(some 22), .iaddr 1 (.t 20) (.t 21), (some (18, false))⟩, ⟨(some 23), .load (.t 22), (some (18, false))⟩, ⟨(some 24), .bin .gtr (.t 23) (.c (.int .i64 (.ofNat 2000))), (some (18, false))⟩, ⟨(some 25), .pick (.t 18) (.c (.bool true)) (.t 24), none⟩])
  (.cond (.t 25) (.seq (.reg [⟨(some 2), .move (.c (.int .i64 (.ofNat 0))), none⟩, ⟨(some 3), .move (.c (.bool false)), none⟩])
  .ret) .skip))
  (.seq (.draw [(⟨(some 26), .move (.t 4), none⟩, 0), (⟨(some 27), .faddr 0 (.t 1), none⟩, 0), (⟨(some 28), .load (.t 27), none⟩, 0), (⟨(some 29), .move (.t 5), none⟩, 0), (⟨(some 30), .iaddr 1 (.t 28) (.t 29), none⟩, 0), (⟨(some 31), .load (.t 30), none⟩, 0), (⟨(some 32), .faddr 1 (.t 1), none⟩, 0), (⟨(some 33), .load (.t 32), none⟩, 0), (⟨(some 34), .move (.t 5), none⟩, 0), (⟨(some 35), .iaddr 1 (.t 33) (.t 34), none⟩, 0), (⟨(some 36), .load (.t 35), none⟩, 0), (⟨(some 37), .bin .add (.t 31) (.t 36), none⟩, 0), (⟨(some 38), .bin .mul (.t 26) (.t 37), none⟩, 0), (⟨(some 4), .move (.t 38), none⟩, 0)])
  (.seq (.reg [⟨(some 39), .move (.t 4), none⟩, ⟨(some 40), .bin .gtr (.t 39) (.c (.int .i64 (.ofNat 2000))), none⟩])
  (.cond (.t 40) (.seq (.reg [⟨(some 2), .move (.c (.int .i64 (.ofNat 0))), none⟩, ⟨(some 3), .move (.c (.bool false)), none⟩])
  .ret) .skip))))))
  (.reg [⟨(some 41), .bin .add (.t 9) (.c (.int .i64 (.ofNat 1))), none⟩, ⟨(some 9), .move (.t 41), none⟩])))))))
  (.seq (.reg [⟨(some 42), .move (.t 4), none⟩, ⟨(some 2), .move (.t 42), none⟩, ⟨(some 3), .move (.c (.bool true)), none⟩])
  .ret))))⟩
theorem ok_ref37_Size : cFunc Go.Proofs.Try.prog Go.Proofs.Try.f68 = some c_ref37_Size := by kernel_rfl
abbrev n_ref37_At : Nat := 69
def c_ref37_At : CFunc := ⟨44, [.tmp 4], (.seq (.reg [⟨(some 2), .box 53 (.t 0), none⟩, ⟨(some 4), .move (.c (.int .i64 (.ofNat 0))), none⟩])
  (.seq (.reg [⟨(some 5), .move (.c (.int .i64 (.ofNat 0))), none⟩])
  (.seq (.seq (.reg [⟨(some 7), .faddr 0 (.t 2), none⟩, ⟨(some 8), .load (.t 7), none⟩, ⟨(some 9), .lenSl (.t 8), none⟩, ⟨(some 10), .move (.c (.int .i64 (.ofNat 0))), none⟩])
  (.block 0 (.loop (.seq (.reg [⟨(some 11), .bin .lss (.t 10) (.t 9), none⟩])
  (.seq (.cond (.t 11) .skip (.exit 0))
  (.seq (.block 1 (.seq (.reg [⟨(some 12), .move (.t 10), none⟩, ⟨(some 6), .move (.t 12), none⟩])
  (.draw [(⟨(some 13), .move (.t 5), none⟩, 1), (⟨(some 14), .faddr 0 (.t 2), none⟩, 1), (⟨(some 15), .load (.t 14), none⟩, 1), (⟨(some 16), .move (.t 6), none⟩, 1), (⟨(some 17), .iaddr 1 (.t 15) (.t 16), none⟩, 1), (⟨(some 18), .load (.t 17), none⟩, 1), (⟨(some 19), .faddr 1 (.t 2), none⟩, 1), (⟨(some 20), .load (.t 19), none⟩, 1), (⟨(some 21), .move (.t 6), none⟩, 1), (⟨(some 22), .iaddr 1 (.t 20) (.t 21), none⟩, 1), (⟨(some 23), .load (.t 22), none⟩, 1), (⟨(some 24), .bin .add (.t 18) (.t 23), none⟩, 1), (⟨(some 25), .bin .mul (.t 13) (.t 24), none⟩, 1), (⟨(some 26), .move (.t 1), none⟩, 0), (⟨(some 27), .move (.t 6), none⟩, 0), (⟨(some 28), .iaddr 1 (.t 26) (.t 27), none⟩, 0), (⟨(some 29), .load (.t 28), none⟩, 0), (⟨(some 30), .faddr 0 (.t 2), none⟩, 0), (⟨(some 31), .load (.t 30), none⟩, 0), (⟨(some 32), .move (.t 6), none⟩, 0), (⟨(some 33), .iaddr 1 (.t 31) (.t 32), none⟩, 0), (⟨(some 34), .load (.t 33), none⟩, 0), (⟨(some 35), .faddr 1 (.t 2), none⟩, 0), (⟨(some 36), .load (.t 35), none⟩, 0), (⟨(some 37), .move (.t 6), none⟩, 0), (⟨(some 38), .iaddr 1 (.t 36) (.t 37), none⟩, 0), (⟨(some 39), .load (.t 38), none⟩, 0), (⟨(some 40), .call 98 [(.t 29), (.t 34), (.t 39)], none⟩, 1), (⟨(some 41), .bin .add (.t 25) (.t 40), none⟩, 1), (⟨(some 5), .move (.t 41), none⟩, 1)])))
  (.reg [⟨(some 42), .bin .add (.t 10) (.c (.int .i64 (.ofNat 1))), none⟩, ⟨(some 10), .move (.t 42), none⟩])))))))
  (.seq (.reg [⟨(some 43), .move (.t 5), none⟩, ⟨(some 4), .move (.t 43), none⟩])
  .ret))))⟩
theorem ok_ref37_At : cFunc Go.Proofs.Try.prog Go.Proofs.Try.f69 = some c_ref37_At := by kernel_rfl
abbrev n_machine_trim : Nat := 70
def c_machine_trim : CFunc := ⟨99, [.cells 4 2], (.seq (.reg [⟨(some 1), .box 66 (.t 0), none⟩, ⟨(some 2), .alloc 66 [(.int .i64 (.ofNat 0)), (.int .i64 (.ofNat 0)), (.slice none 0 0), (.slice none 0 0)], none⟩])
  (.seq (.reg [⟨(some 11), .faddr 3 (.t 1), none⟩, ⟨(some 12), .load (.t 11), none⟩, ⟨(some 13), .lenSl (.t 12), none⟩, ⟨(some 14), .mkSlice 3 8 1 [(.int .i64 (.ofNat 0))] (.t 13) (.t 13), none⟩, ⟨(some 3), .move (.t 14), none⟩])
  (.seq (.seq (.reg [⟨(some 15), .move (.t 3), none⟩, ⟨(some 16), .lenSl (.t 15), none⟩, ⟨(some 17), .move (.c (.int .i64 (.ofNat 0))), none⟩])
  (.block 0 (.loop (.seq (.reg [⟨(some 18), .bin .lss (.t 17) (.t 16), none⟩])
  (.seq (.cond (.t 18) .skip (.exit 0))
  (.seq (.block 1 (.seq (.reg [⟨(some 19), .move (.t 17), none⟩, ⟨(some 4), .move (.t 19), none⟩])
  (.reg [⟨(some 20), .move (.t 3), none⟩, ⟨(some 21), .move (.t 4), none⟩, ⟨(some 22), .iaddr 1 (.t 20) (.t 21), none⟩, ⟨none, .store 1 (.t 22) (.c (.int .i64 (.negSucc 0))), none⟩])))
  (.reg [⟨(some 23), .bin .add (.t 17) (.c (.int .i64 (.ofNat 1))), none⟩, ⟨(some 17), .move (.t 23), none⟩])))))))
  (.seq (.reg [⟨(some 24), .move (.t 3), none⟩, ⟨(some 25), .faddr 1 (.t 1), none⟩, ⟨(some 26), .load (.t 25), none⟩, ⟨(some 27), .iaddr 1 (.t 24) (.t 26), none⟩, ⟨none, .store 1 (.t 27) (.c (.int .i64 (.ofNat 0))), none⟩])
  (.seq (.reg [⟨(some 28), .faddr 1 (.t 1), none⟩, ⟨(some 29), .load (.t 28), none⟩, ⟨(some 30), .buildSlice 3 1 1 [(.int .i64 (.ofNat 0))] [(0, (.t 29))], none⟩, ⟨(some 5), .move (.t 30), none⟩])
  (.seq (.reg [⟨(some 31), .faddr 0 (.t 1), none⟩, ⟨(some 32), .load (.t 31), none⟩, ⟨(some 33), .build [(.int .i64 (.ofNat 0)), (.int .i64 (.ofNat 0)), (.slice none 0 0), (.slice none 0 0)] [(0, 1, (.t 32))], none⟩, ⟨(some 6), .alloc 66 [(.int .i64 (.ofNat 0)), (.int .i64 (.ofNat 0)), (.slice none 0 0), (.slice none 0 0)], none⟩, ⟨none, .store 4 (.t 6) (.t 33), none⟩])
  (.seq (.seq (.reg [⟨(some 7), .move (.c (.int .i64 (.ofNat 0))), none⟩])
  (.block 2 (.loop (.seq (.seq (.reg [⟨(some 34), .move (.t 7), none⟩, ⟨(some 35), .move (.t 5), none⟩, ⟨(some 36), .lenSl (.t 35), none⟩, ⟨(some 37), .bin .lss (.t 34) (.t 36), none⟩])
  (.cond (.t 37) .skip (.exit 2)))
  (.seq (.block 3 (.seq (.reg [⟨(some 40), .faddr 0 (.t 1), none⟩, ⟨(some 41), .load (.t 40), none⟩, ⟨(some 42), .mkSlice 3 8 1 [(.int .i64 (.ofNat 0))] (.t 41) (.t 41), none⟩, ⟨(some 8), .move (.t 42), none⟩])
  (.seq (.seq (.draw [(⟨(some 43), .faddr 3 (.t 1), none⟩, 0), (⟨(some 44), .load (.t 43), none⟩, 0), (⟨(some 45), .move (.t 5), none⟩, 0), (⟨(some 46), .move (.t 7), none⟩, 0), (⟨(some 47), .iaddr 1 (.t 45) (.t 46), none⟩, 0), (⟨(some 48), .load (.t 47), none⟩, 0), (⟨(some 49), .iaddr 1 (.t 44) (.t 48), none⟩, 0), (⟨(some 50), .load (.t 49), none⟩, 0), (⟨(some 51), .lenSl (.t 50), none⟩, 0), (⟨(some 52), .move (.c (.int .i64 (.ofNat 0))), none⟩, 0)])
  (.block 4 (.loop (.seq (.reg [⟨(some 53), .bin .lss (.t 52) (.t 51), none⟩])
  (.seq (.cond (.t 53) .skip (.exit 4))
  (.seq (.block 5 (.seq (.reg [⟨(some 54), .move (.t 52), none⟩, ⟨(some 55), .iaddr 1 (.t 50) (.t 52), none⟩, ⟨(some 56), .load (.t 55), none⟩, ⟨(some 9), .move (.t 54), none⟩, ⟨(some 10), .move (.t 56), none⟩])
  (.seq (.seq (.reg [⟨(some 57), .move (.t 3), none⟩, ⟨(some 58), .move (.t 10), none⟩, ⟨(some 59), .iaddr 1 (.t 57) (.t 58), none⟩, ⟨(some 60), .load (.t 59), none⟩, ⟨(some 61), .bin .lss (.t 60) (.c (.int .i64 (.ofNat 0))), none⟩])
  (.cond (.t 61) (.seq (.reg [⟨(some 62), .move (.t 3), none⟩, ⟨(some 63), .move (.t 10), none⟩, ⟨(some 64), .move (.t 5), none⟩, ⟨(some 65), .lenSl (.t 64), none⟩, ⟨(some 66), .iaddr 1 (.t 62) (.t 63), none⟩, ⟨none, .store 1 (.t 66) (.t 65), none⟩])
  (.reg [⟨(some 67), .move (.t 5), none⟩, ⟨(some 68), .move (.t 10), none⟩, ⟨(some 69), .buildSlice 3 1 1 [(.int .i64 (.ofNat 0))] [(0, (.t 68))], none⟩, ⟨(some 70), .append 3 1 8 (.t 67) (.t 69), none⟩, ⟨(some 5), .move (.t 70), none⟩])) .skip))
  (.reg [⟨(some 71), .move (.t 8), none⟩, ⟨(some 72), .move (.t 9), none⟩, ⟨(some 73), .move (.t 3), none⟩, ⟨(some 74), .move (.t 10), none⟩, ⟨(some 75), .iaddr 1 (.t 73) (.t 74), none⟩, ⟨(some 76), .load (.t 75), none⟩, ⟨(some 77), .iaddr 1 (.t 71) (.t 72), none⟩, ⟨none, .store 1 (.t 77) (.t 76), none⟩]))))
  (.reg [⟨(some 78), .bin .add (.t 52) (.c (.int .i64 (.ofNat 1))), none⟩, ⟨(some 52), .move (.t 78), none⟩])))))))
  (.seq (.draw [(⟨(some 79), .faddr 2 (.t 6), none⟩, 0), (⟨(some 80), .load (.t 79), none⟩, 0), (⟨(some 81), .faddr 2 (.t 1), none⟩, 0), (⟨(some 82), .load (.t 81), none⟩, 0), (⟨(some 83), .move (.t 5), none⟩, 0), (⟨(some 84), .move (.t 7), none⟩, 0), (⟨(some 85), .iaddr 1 (.t 83) (.t 84), none⟩, 0), (⟨(some 86), .load (.t 85), none⟩, 0), (⟨(some 87), .iaddr 1 (.t 82) (.t 86), none⟩, 0), (⟨(some 88), .load (.t 87), none⟩, 0), (⟨(some 89), .buildSlice 4 1 1 [(.bool false)] [(0, (.t 88))], none⟩, 0), (⟨(some 90), .append 4 1 1 (.t 80) (.t 89), none⟩, 1), (⟨(some 91), .faddr 2 (.t 6), none⟩, 1), (⟨none, .store 1 (.t 91) (.t 90), none⟩, 2)])
  (.reg [⟨(some 92), .faddr 3 (.t 6), none⟩, ⟨(some 93), .load (.t 92), none⟩, ⟨(some 94), .move (.t 8), none⟩, ⟨(some 95), .buildSlice 22 1 1 [(.slice none 0 0)] [(0, (.t 94))], none⟩, ⟨(some 96), .append 22 1 24 (.t 93) (.t 95), none⟩, ⟨(some 97), .faddr 3 (.t 6), none⟩, ⟨none, .store 1 (.t 97) (.t 96), none⟩])))))
  (.reg [⟨(some 38), .move (.t 7), none⟩, ⟨(some 39), .bin .add (.t 38) (.c (.int .i64 (.ofNat 1))), none⟩, ⟨(some 7), .move (.t 39), none⟩]))))))
  (.seq (.reg [⟨(some 98), .loadN 4 (.t 6), none⟩, ⟨none, .store 4 (.t 2) (.t 98), none⟩])
  .ret))))))))⟩
theorem ok_machine_trim : cFunc Go.Proofs.Try.prog Go.Proofs.Try.f70 = some c_machine_trim := by kernel_rfl
abbrev n_dfa_Validate : Nat := 75
def c_dfa_Validate : CFunc := ⟨71, [.tmp 2], (.seq (.reg [⟨(some 1), .box 32 (.t 0), none⟩, ⟨(some 2), .move (.c (.int .i64 (.ofNat 0))), none⟩])
  (.seq (.reg [⟨(some 8), .faddr 2 (.t 1), none⟩, ⟨(some 9), .load (.t 8), none⟩, ⟨(some 10), .lenSl (.t 9), none⟩, ⟨(some 3), .move (.t 10), none⟩])
  (.seq (.block 0 (.seq (.reg [⟨(some 12), .faddr 0 (.t 1), none⟩, ⟨(some 13), .load (.t 12), none⟩, ⟨(some 14), .bin .lss (.t 13) (.c (.int .i64 (.ofNat 1))), none⟩, ⟨(some 15), .move (.t 14), none⟩, ⟨(some 16), .faddr 0 (.t 1), (some (15, false))⟩, ⟨(some 17), .load (.t 16), (some (15, false))⟩, ⟨(some 18), .bin .gtr (.t 17) (.c (.int .i64 (.ofNat 6))), (some (15, false))⟩, ⟨(some 19), .pick (.t 15) (.c (.bool true)) (.t 18), none⟩, ⟨(some 11), .move (.t 19), none⟩])
  (.cond (.t 11) (.seq (.reg [⟨(some 2), .move (.c (.int .i64 (.ofNat 1))), none⟩])
  .ret) (.seq (.reg [⟨(some 21), .move (.t 3), none⟩, ⟨(some 22), .bin .gtr (.t 21) (.c (.int .i64 (.ofNat 512))), none⟩, ⟨(some 20), .move (.t 22), none⟩])
  (.cond (.t 20) (.seq (.reg [⟨(some 2), .move (.c (.int .i64 (.ofNat 3))), none⟩])
  .ret) (.seq (.reg [⟨(some 24), .move (.t 3), none⟩, ⟨(some 25), .bin .eql (.t 24) (.c (.int .i64 (.ofNat 0))), none⟩, ⟨(some 26), .move (.t 25), none⟩, ⟨(some 27), .faddr 3 (.t 1), (some (26, false))⟩, ⟨(some 28), .load (.t 27), (some (26, false))⟩, ⟨(some 29), .lenSl (.t 28), (some (26, false))⟩, ⟨(some 30), .move (.t 3), (some (26, false))⟩, ⟨(some 31), .bin .neq (.t 29) (.t 30), (some (26, false))⟩, ⟨(some 32), .pick (.t 26) (.c (.bool true)) (.t 31), none⟩, ⟨(some 33), .move (.t 32), none⟩, ⟨(some 34), .faddr 1 (.t 1), (some (33, false))⟩, ⟨(some 35), .load (.t 34), (some (33, false))⟩, ⟨(some 36), .bin .lss (.t 35) (.c (.int .i64 (.ofNat 0))), (some (33, false))⟩, ⟨(some 37), .pick (.t 33) (.c (.bool true)) (.t 36), none⟩, ⟨(some 38), .move (.t 37), none⟩, ⟨(some 39), .faddr 1 (.t 1), (some (38, false))⟩, ⟨(some 40), .load (.t 39), (some (38, false))⟩, ⟨(some 41), .move (.t 3), (some (38, false))⟩, ⟨(some 42), .bin .geq (.t 40) (.t 41), (some (38, false))⟩, ⟨(some 43), .pick (.t 38) (.c (.bool true)) (.t 42), none⟩, ⟨(some 23), .move (.t 43), none⟩])
  (.cond (.t 23) (.seq (.reg [⟨(some 2), .move (.c (.int .i64 (.ofNat 4))), none⟩])
  .ret) .skip)))))))
  (.seq (.seq (.reg [⟨(some 44), .faddr 3 (.t 1), none⟩, ⟨(some 45), .load (.t 44), none⟩, ⟨(some 46), .lenSl (.t 45), none⟩, ⟨(some 47), .move (.c (.int .i64 (.ofNat 0))), none⟩])
  (.block 1 (.loop (.seq (.reg [⟨(some 48), .bin .lss (.t 47) (.t 46), none⟩])
  (.seq (.cond (.t 48) .skip (.exit 1))
  (.seq (.block 2 (.seq (.reg [⟨(some 49), .iaddr 1 (.t 45) (.t 47), none⟩, ⟨(some 50), .load (.t 49), none⟩, ⟨(some 5), .move (.t 50), none⟩])
  (.seq (.seq (.reg [⟨(some 51), .move (.t 5), none⟩, ⟨(some 52), .lenSl (.t 51), none⟩, ⟨(some 53), .faddr 0 (.t 1), none⟩, ⟨(some 54), .load (.t 53), none⟩, ⟨(some 55), .bin .neq (.t 52) (.t 54), none⟩])
  (.cond (.t 55) (.seq (.reg [⟨(some 2), .move (.c (.int .i64 (.ofNat 4))), none⟩])
  .ret) .skip))
  (.seq (.reg [⟨(some 56), .move (.t 5), none⟩, ⟨(some 57), .lenSl (.t 56), none⟩, ⟨(some 58), .move (.c (.int .i64 (.ofNat 0))), none⟩])
  (.block 3 (.loop (.seq (.reg [⟨(some 59), .bin .lss (.t 58) (.t 57), none⟩])
  (.seq (.cond (.t 59) .skip (.exit 3))
  (.seq (.block 4 (.seq (.reg [⟨(some 60), .iaddr 1 (.t 56) (.t 58), none⟩, ⟨(some 61), .load (.t 60), none⟩, ⟨(some 7), .move (.t 61), none⟩])
  (.seq (.reg [⟨(some 62), .move (.t 7), none⟩, ⟨(some 63), .bin .lss (.t 62) (.c (.int .i64 (.ofNat 0))), none⟩, ⟨(some 64), .move (.t 63), none⟩, ⟨(some 65), .move (.t 7), (some (64, false))⟩, ⟨(some 66), .move (.t 3), (some (64, false))⟩, ⟨(some 67), .bin .geq (.t 65) (.t 66), (some (64, false))⟩, ⟨(some 68), .pick (.t 64) (.c (.bool true)) (.t 67), none⟩])
  (.cond (.t 68) (.seq (.reg [⟨(some 2), .move (.c (.int .i64 (.ofNat 4))), none⟩])
  .ret) .skip))))
  (.reg [⟨(some 69), .bin .add (.t 58) (.c (.int .i64 (.ofNat 1))), none⟩, ⟨(some 58), .move (.t 69), none⟩]))))))))))
  (.reg [⟨(some 70), .bin .add (.t 47) (.c (.int .i64 (.ofNat 1))), none⟩, ⟨(some 47), .move (.t 70), none⟩])))))))
  (.seq (.reg [⟨(some 2), .move (.c (.int .i64 (.ofNat 0))), none⟩])
  .ret)))))⟩
theorem ok_dfa_Validate : cFunc Go.Proofs.Try.prog Go.Proofs.Try.f75 = some c_dfa_Validate := by kernel_rfl
abbrev n_ref03_Same : Nat := 79
def c_ref03_Same : CFunc := ⟨26, [.tmp 4], (.seq (.reg [⟨(some 4), .move (.c (.bool false)), none⟩])
  (.seq (.seq (.reg [⟨(some 6), .move (.t 0), none⟩, ⟨(some 7), .lenSl (.t 6), none⟩, ⟨(some 8), .move (.t 1), none⟩, ⟨(some 9), .lenSl (.t 8), none⟩, ⟨(some 10), .bin .neq (.t 7) (.t 9), none⟩])
  (.cond (.t 10) (.seq (.reg [⟨(some 4), .move (.c (.bool false)), none⟩])
  .ret) .skip))
  (.seq (.seq (.reg [⟨(some 11), .move (.t 0), none⟩, ⟨(some 12), .lenSl (.t 11), none⟩, ⟨(some 13), .move (.c (.int .i64 (.ofNat 0))), none⟩])
  (.block 0 (.loop (.seq (.reg [⟨(some 14), .bin .lss (.t 13) (.t 12), none⟩])
  (.seq (.cond (.t 14) .skip (.exit 0))
  (.seq (.block 1 (.seq (.reg [⟨(some 15), .move (.t 13), none⟩, ⟨(some 5), .move (.t 15), none⟩])
  (.seq (.draw [(⟨(some 16), .move (.t 0), none⟩, 0), (⟨(some 17), .move (.t 5), none⟩, 0), (⟨(some 18), .iaddr 1 (.t 16) (.t 17), none⟩, 0), (⟨(some 19), .load (.t 18), none⟩, 0), (⟨(some 20), .move (.t 1), none⟩, 0), (⟨(some 21), .move (.t 5), none⟩, 0), (⟨(some 22), .iaddr 1 (.t 20) (.t 21), none⟩, 0), (⟨(some 23), .load (.t 22), none⟩, 0), (⟨(some 24), .bin .neq (.t 19) (.t 23), none⟩, 0)])
  (.cond (.t 24) (.seq (.reg [⟨(some 4), .move (.c (.bool false)), none⟩])
  .ret) .skip))))
  (.reg [⟨(some 25), .bin .add (.t 13) (.c (.int .i64 (.ofNat 1))), none⟩, ⟨(some 13), .move (.t 25), none⟩])))))))
  (.seq (.reg [⟨(some 4), .move (.c (.bool true)), none⟩])
  .ret))))⟩
theorem ok_ref03_Same : cFunc Go.Proofs.Try.prog Go.Proofs.Try.f79 = some c_ref03_Same := by kernel_rfl
abbrev n_ref08_Minimal : Nat := 92
def c_ref08_Minimal : CFunc := ⟨74, [.cells 4 2], (.seq (.reg [⟨(some 1), .box 32 (.t 0), none⟩, ⟨(some 2), .alloc 32 [(.int .i64 (.ofNat 0)), (.int .i64 (.ofNat 0)), (.slice none 0 0), (.slice none 0 0)], none⟩])
  (.seq (.reg [⟨(some 11), .loadN 4 (.t 1), none⟩, ⟨(some 12), .call 110 [(.t 11)], none⟩, ⟨(some 3), .move (.t 12), none⟩])
  (.seq (.draw [(⟨(some 13), .faddr 0 (.t 1), none⟩, 0), (⟨(some 14), .load (.t 13), none⟩, 0), (⟨(some 15), .move (.t 3), none⟩, 0), (⟨(some 16), .faddr 1 (.t 1), none⟩, 0), (⟨(some 17), .load (.t 16), none⟩, 0), (⟨(some 18), .iaddr 1 (.t 15) (.t 17), none⟩, 0), (⟨(some 19), .load (.t 18), none⟩, 0), (⟨(some 20), .build [(.int .i64 (.ofNat 0)), (.int .i64 (.ofNat 0)), (.slice none 0 0), (.slice none 0 0)] [(0, 1, (.t 14)), (1, 1, (.t 19))], none⟩, 0), (⟨(some 4), .alloc 32 [(.int .i64 (.ofNat 0)), (.int .i64 (.ofNat 0)), (.slice none 0 0), (.slice none 0 0)], none⟩, 0), (⟨none, .store 4 (.t 4) (.t 20), none⟩, 1)])
  (.seq (.reg [⟨(some 5), .move (.c (.int .i64 (.ofNat 0))), none⟩])
  (.seq (.seq (.reg [⟨(some 21), .move (.t 3), none⟩, ⟨(some 22), .lenSl (.t 21), none⟩, ⟨(some 23), .move (.c (.int .i64 (.ofNat 0))), none⟩])
  (.block 0 (.loop (.seq (.reg [⟨(some 24), .bin .lss (.t 23) (.t 22), none⟩])
  (.seq (.cond (.t 24) .skip (.exit 0))
  (.seq (.block 1 (.seq (.reg [⟨(some 25), .move (.t 23), none⟩, ⟨(some 26), .iaddr 1 (.t 21) (.t 23), none⟩, ⟨(some 27), .load (.t 26), none⟩, ⟨(some 6), .move (.t 25), none⟩, ⟨(some 7), .move (.t 27), none⟩])
  (.seq (.seq (.reg [⟨(some 28), .move (.t 7), none⟩, ⟨(some 29), .move (.t 5), none⟩, ⟨(some 30), .bin .neq (.t 28) (.t 29), none⟩])
  (.cond (.t 30) (.exit 1) .skip))
  (.seq (.reg [⟨(some 31), .move (.t 5), none⟩, ⟨(some 32), .bin .add (.t 31) (.c (.int .i64 (.ofNat 1))), none⟩, ⟨(some 5), .move (.t 32), none⟩])
  (.seq (.reg [⟨(some 8), .move (.c (.slice none 0 0)), none⟩])
  (.seq (.seq (.reg [⟨(some 33), .faddr 3 (.t 1), none⟩, ⟨(some 34), .load (.t 33), none⟩, ⟨(some 35), .move (.t 6), none⟩, ⟨(some 36), .iaddr 1 (.t 34) (.t 35), none⟩, ⟨(some 37), .load (.t 36), none⟩, ⟨(some 38), .lenSl (.t 37), none⟩, ⟨(some 39), .move (.c (.int .i64 (.ofNat 0))), none⟩])
  (.block 2 (.loop (.seq (.reg [⟨(some 40), .bin .lss (.t 39) (.t 38), none⟩])
  (.seq (.cond (.t 40) .skip (.exit 2))
  (.seq (.block 3 (.seq (.reg [⟨(some 41), .iaddr 1 (.t 37) (.t 39), none⟩, ⟨(some 42), .load (.t 41), none⟩, ⟨(some 10), .move (.t 42), none⟩])
  (.reg [⟨(some 43), .move (.t 8), none⟩, ⟨(some 44), .move (.t 3), none⟩, ⟨(some 45), .move (.t 10), none⟩, ⟨(some 46), .iaddr 1 (.t 44) (.t 45), none⟩, ⟨(some 47), .load (.t 46), none⟩, ⟨(some 48), .buildSlice 3 1 1 [(.int .i64 (.ofNat 0))] [(0, (.t 47))], none⟩, ⟨(some 49), .append 3 1 8 (.t 43) (.t 48), none⟩, ⟨(some 8), .move (.t 49), none⟩])))
  (.reg [⟨(some 50), .bin .add (.t 39) (.c (.int .i64 (.ofNat 1))), none⟩, ⟨(some 39), .move (.t 50), none⟩])))))))
  (.draw [(⟨(some 51), .faddr 3 (.t 4), none⟩, 0), (⟨(some 52), .load (.t 51), none⟩, 0), (⟨(some 53), .move (.t 8), none⟩, 0), (⟨(some 54), .buildSlice 22 1 1 [(.slice none 0 0)] [(0, (.t 53))], none⟩, 0), (⟨(some 56), .faddr 2 (.t 4), none⟩, 1), (⟨(some 57), .load (.t 56), none⟩, 1), (⟨(some 58), .faddr 2 (.t 1), none⟩, 1), (⟨(some 59), .load (.t 58), none⟩, 1), (⟨(some 60), .move (.t 6), none⟩, 1), (⟨(some 61), .iaddr 1 (.t 59) (.t 60), none⟩, 1), (⟨(some 62), .load (.t 61), none⟩, 1), (⟨(some 63), .buildSlice 4 1 1 [(.bool false)] [(0, (.t 62))], none⟩, 1), (⟨(some 55), .append 22 1 24 (.t 52) (.t 54), none⟩, 1), (⟨(some 65), .faddr 3 (.t 4), none⟩, 2), (⟨(some 64), .append 4 1 1 (.t 57) (.t 63), none⟩, 2), (⟨none, .store 1 (.t 65) (.t 55), none⟩, 3), (⟨(some 66), .faddr 2 (.t 4), none⟩, 3), (⟨none, .store 1 (.t 66) (.t 64), none⟩, 4)])))))))
  (.reg [⟨(some 67), .bin .add (.t 23) (.c (.int .i64 (.ofNat 1))), none⟩, ⟨(some 23), .move (.t 67), none⟩])))))))
  (.seq (.reg [⟨(some 69), .loadN 4 (.t 4), none⟩, ⟨(some 70), .call 111 [(.t 69)], none⟩, ⟨(some 68), .move (.t 70), none⟩, ⟨(some 71), .extract 0 (.t 68), none⟩, ⟨(some 72), .extract 1 (.t 68), none⟩, ⟨none, .store 4 (.t 4) (.t 71), none⟩])
  (.seq (.reg [⟨(some 73), .loadN 4 (.t 4), none⟩, ⟨none, .store 4 (.t 2) (.t 73), none⟩])
  .ret)))))))⟩
theorem ok_ref08_Minimal : cFunc Go.Proofs.Try.prog Go.Proofs.Try.f92 = some c_ref08_Minimal := by kernel_rfl
abbrev n_ref37_As : Nat := 98
def c_ref37_As : CFunc := ⟨18, [.tmp 6], (.seq (.reg [⟨(some 6), .move (.c (.int .i64 (.ofNat 0))), none⟩])
  (.seq (.seq (.reg [⟨(some 7), .move (.t 0), none⟩, ⟨(some 8), .move (.t 1), none⟩, ⟨(some 9), .bin .lss (.t 7) (.t 8), none⟩])
  (.cond (.t 9) (.seq (.reg [⟨(some 10), .move (.t 0), none⟩, ⟨(some 6), .move (.t 10), none⟩])
  .ret) .skip))
  (.seq (.reg [⟨(some 11), .move (.t 1), none⟩, ⟨(some 12), .move (.t 0), none⟩, ⟨(some 13), .move (.t 1), none⟩, ⟨(some 14), .bin .sub (.t 12) (.t 13), none⟩, ⟨(some 15), .move (.t 2), none⟩, ⟨(some 16), .bin .rem (.t 14) (.t 15), none⟩, ⟨(some 17), .bin .add (.t 11) (.t 16), none⟩, ⟨(some 6), .move (.t 17), none⟩])
  .ret)))⟩
theorem ok_ref37_As : cFunc Go.Proofs.Try.prog Go.Proofs.Try.f98 = some c_ref37_As := by kernel_rfl
abbrev n_ref08_Classes : Nat := 110
def c_ref08_Classes : CFunc := ⟨64, [.tmp 2], (.seq (.reg [⟨(some 1), .box 32 (.t 0), none⟩, ⟨(some 2), .move (.c (.slice none 0 0)), none⟩])
  (.seq (.reg [⟨(some 9), .faddr 2 (.t 1), none⟩, ⟨(some 10), .load (.t 9), none⟩, ⟨(some 11), .lenSl (.t 10), none⟩, ⟨(some 12), .mkSlice 3 8 1 [(.int .i64 (.ofNat 0))] (.t 11) (.t 11), none⟩, ⟨(some 3), .move (.t 12), none⟩])
  (.seq (.seq (.reg [⟨(some 13), .move (.t 3), none⟩, ⟨(some 14), .lenSl (.t 13), none⟩, ⟨(some 15), .move (.c (.int .i64 (.ofNat 0))), none⟩])
  (.block 0 (.loop (.seq (.reg [⟨(some 16), .bin .lss (.t 15) (.t 14), none⟩])
  (.seq (.cond (.t 16) .skip (.exit 0))
  (.seq (.block 1 (.seq (.reg [⟨(some 17), .move (.t 15), none⟩, ⟨(some 4), .move (.t 17), none⟩])
  (.seq (.reg [⟨(some 18), .faddr 2 (.t 1), none⟩, ⟨(some 19), .load (.t 18), none⟩, ⟨(some 20), .move (.t 4), none⟩, ⟨(some 21), .iaddr 1 (.t 19) (.t 20), none⟩, ⟨(some 22), .load (.t 21), none⟩])
  (.cond (.t 22) (.reg [⟨(some 23), .move (.t 3), none⟩, ⟨(some 24), .move (.t 4), none⟩, ⟨(some 25), .iaddr 1 (.t 23) (.t 24), none⟩, ⟨none, .store 1 (.t 25) (.c (.int .i64 (.ofNat 1))), none⟩]) .skip))))
  (.reg [⟨(some 26), .bin .add (.t 15) (.c (.int .i64 (.ofNat 1))), none⟩, ⟨(some 15), .move (.t 26), none⟩])))))))
  (.seq (.reg [⟨(some 27), .move (.t 3), none⟩, ⟨(some 28), .call 126 [(.t 27)], none⟩, ⟨(some 3), .move (.t 28), none⟩])
  (.block 2 (.loop (.block 3 (.seq (.reg [⟨(some 29), .move (.t 3), none⟩, ⟨(some 5), .move (.t 29), none⟩])
  (.seq (.seq (.reg [⟨(some 6), .move (.c (.int .i64 (.ofNat 0))), none⟩])
  (.block 4 (.loop (.seq (.seq (.reg [⟨(some 30), .move (.t 6), none⟩, ⟨(some 31), .faddr 0 (.t 1), none⟩, ⟨(some 32), .load (.t 31), none⟩, ⟨(some 33), .bin .lss (.t 30) (.t 32), none⟩])
  (.cond (.t 33) .skip (.exit 4)))
  (.seq (.block 5 (.seq (.reg [⟨(some 7), .move (.c (.slice none 0 0)), none⟩])
  (.seq (.seq (.reg [⟨(some 36), .move (.t 3), none⟩, ⟨(some 37), .lenSl (.t 36), none⟩, ⟨(some 38), .move (.c (.int .i64 (.ofNat 0))), none⟩])
  (.block 6 (.loop (.seq (.reg [⟨(some 39), .bin .lss (.t 38) (.t 37), none⟩])
  (.seq (.cond (.t 39) .skip (.exit 6))
  (.seq (.block 7 (.seq (.reg [⟨(some 40), .move (.t 38), none⟩, ⟨(some 8), .move (.t 40), none⟩])
  (.reg [⟨(some 41), .move (.t 7), none⟩, ⟨(some 42), .move (.t 3), none⟩, ⟨(some 43), .faddr 3 (.t 1), none⟩, ⟨(some 44), .load (.t 43), none⟩, ⟨(some 45), .move (.t 8), none⟩, ⟨(some 46), .iaddr 1 (.t 44) (.t 45), none⟩, ⟨(some 47), .load (.t 46), none⟩, ⟨(some 48), .move (.t 6), none⟩, ⟨(some 49), .iaddr 1 (.t 47) (.t 48), none⟩, ⟨(some 50), .load (.t 49), none⟩, ⟨(some 51), .iaddr 1 (.t 42) (.t 50), none⟩, ⟨(some 52), .load (.t 51), none⟩, ⟨(some 53), .buildSlice 3 1 1 [(.int .i64 (.ofNat 0))] [(0, (.t 52))], none⟩, ⟨(some 54), .append 3 1 8 (.t 41) (.t 53), none⟩, ⟨(some 7), .move (.t 54), none⟩])))
  (.reg [⟨(some 55), .bin .add (.t 38) (.c (.int .i64 (.ofNat 1))), none⟩, ⟨(some 38), .move (.t 55), none⟩])))))))
  (.reg [⟨(some 56), .move (.t 5), none⟩, ⟨(some 57), .move (.t 7), none⟩, ⟨(some 58), .call 127 [(.t 56), (.t 57)], none⟩, ⟨(some 5), .move (.t 58), none⟩]))))
  (.reg [⟨(some 34), .move (.t 6), none⟩, ⟨(some 35), .bin .add (.t 34) (.c (.int .i64 (.ofNat 1))), none⟩, ⟨(some 6), .move (.t 35), none⟩]))))))
  (.seq (.seq (.reg [⟨(some 59), .move (.t 5), none⟩, ⟨(some 60), .move (.t 3), none⟩, ⟨(some 61), .call 79 [(.t 59), (.t 60)], none⟩])
  (.cond (.t 61) (.seq (.reg [⟨(some 62), .move (.t 3), none⟩, ⟨(some 2), .move (.t 62), none⟩])
  .ret) .skip))
  (.reg [⟨(some 63), .move (.t 5), none⟩, ⟨(some 3), .move (.t 63), none⟩])))))))))))⟩
theorem ok_ref08_Classes : cFunc Go.Proofs.Try.prog Go.Proofs.Try.f110 = some c_ref08_Classes := by kernel_rfl
abbrev n_ref07_Trim : Nat := 111
def c_ref07_Trim : CFunc := ⟨92, [.cells 4 2, .tmp 3], (.seq (.reg [⟨(some 1), .box 32 (.t 0), none⟩, ⟨(some 2), .alloc 32 [(.int .i64 (.ofNat 0)), (.int .i64 (.ofNat 0)), (.slice none 0 0), (.slice none 0 0)], none⟩, ⟨(some 3), .move (.c (.slice none 0 0)), none⟩])
  (.seq (.reg [⟨(some 17), .loadN 4 (.t 1), none⟩, ⟨(some 18), .call 128 [(.t 17)], none⟩, ⟨(some 16), .move (.t 18), none⟩, ⟨(some 19), .extract 0 (.t 16), none⟩, ⟨(some 20), .extract 1 (.t 16), none⟩, ⟨(some 4), .move (.t 19), none⟩, ⟨(some 5), .move (.t 20), none⟩])
  (.seq (.reg [⟨(some 21), .faddr 2 (.t 1), none⟩, ⟨(some 22), .load (.t 21), none⟩, ⟨(some 23), .lenSl (.t 22), none⟩, ⟨(some 24), .mkSlice 3 8 1 [(.int .i64 (.ofNat 0))] (.t 23) (.t 23), none⟩, ⟨(some 6), .move (.t 24), none⟩])
  (.seq (.seq (.reg [⟨(some 25), .move (.t 6), none⟩, ⟨(some 26), .lenSl (.t 25), none⟩, ⟨(some 27), .move (.c (.int .i64 (.ofNat 0))), none⟩])
  (.block 0 (.loop (.seq (.reg [⟨(some 28), .bin .lss (.t 27) (.t 26), none⟩])
  (.seq (.cond (.t 28) .skip (.exit 0))
  (.seq (.block 1 (.seq (.reg [⟨(some 29), .move (.t 27), none⟩, ⟨(some 7), .move (.t 29), none⟩])
  (.reg [⟨(some 30), .move (.t 6), none⟩, ⟨(some 31), .move (.t 7), none⟩, ⟨(some 32), .iaddr 1 (.t 30) (.t 31), none⟩, ⟨none, .store 1 (.t 32) (.c (.int .i64 (.negSucc 0))), none⟩])))
  (.reg [⟨(some 33), .bin .add (.t 27) (.c (.int .i64 (.ofNat 1))), none⟩, ⟨(some 27), .move (.t 33), none⟩])))))))
  (.seq (.seq (.reg [⟨(some 34), .move (.t 4), none⟩, ⟨(some 35), .lenSl (.t 34), none⟩, ⟨(some 36), .move (.c (.int .i64 (.ofNat 0))), none⟩])
  (.block 2 (.loop (.seq (.reg [⟨(some 37), .bin .lss (.t 36) (.t 35), none⟩])
  (.seq (.cond (.t 37) .skip (.exit 2))
  (.seq (.block 3 (.seq (.reg [⟨(some 38), .move (.t 36), none⟩, ⟨(some 39), .iaddr 1 (.t 34) (.t 36), none⟩, ⟨(some 40), .load (.t 39), none⟩, ⟨(some 8), .move (.t 38), none⟩, ⟨(some 9), .move (.t 40), none⟩])
  (.reg [⟨(some 41), .move (.t 6), none⟩, ⟨(some 42), .move (.t 9), none⟩, ⟨(some 43), .move (.t 8), none⟩, ⟨(some 44), .iaddr 1 (.t 41) (.t 42), none⟩, ⟨none, .store 1 (.t 44) (.t 43), none⟩])))
  (.reg [⟨(some 45), .bin .add (.t 36) (.c (.int .i64 (.ofNat 1))), none⟩, ⟨(some 36), .move (.t 45), none⟩])))))))
  (.seq (.reg [⟨(some 46), .faddr 0 (.t 1), none⟩, ⟨(some 47), .load (.t 46), none⟩, ⟨(some 48), .build [(.int .i64 (.ofNat 0)), (.int .i64 (.ofNat 0)), (.slice none 0 0), (.slice none 0 0)] [(0, 1, (.t 47))], none⟩, ⟨(some 10), .alloc 32 [(.int .i64 (.ofNat 0)), (.int .i64 (.ofNat 0)), (.slice none 0 0), (.slice none 0 0)], none⟩, ⟨none, .store 4 (.t 10) (.t 48), none⟩])
  (.seq (.seq (.reg [⟨(some 49), .move (.t 4), none⟩, ⟨(some 50), .lenSl (.t 49), none⟩, ⟨(some 51), .move (.c (.int .i64 (.ofNat 0))), none⟩])
  (.block 4 (.loop (.seq (.reg [⟨(some 52), .bin .lss (.t 51) (.t 50), none⟩])
  (.seq (.cond (.t 52) .skip (.exit 4))
  (.seq (.block 5 (.seq (.reg [⟨(some 53), .iaddr 1 (.t 49) (.t 51), none⟩, ⟨(some 54), .load (.t 53), none⟩, ⟨(some 12), .move (.t 54), none⟩])
  (.seq (.reg [⟨(some 13), .move (.c (.slice none 0 0)), none⟩])
  (.seq (.seq (.reg [⟨(some 55), .faddr 3 (.t 1), none⟩, ⟨(some 56), .load (.t 55), none⟩, ⟨(some 57), .move (.t 12), none⟩, ⟨(some 58), .iaddr 1 (.t 56) (.t 57), none⟩, ⟨(some 59), .load (.t 58), none⟩, ⟨(some 60), .lenSl (.t 59), none⟩, ⟨(some 61), .move (.c (.int .i64 (.ofNat 0))), none⟩])
  (.block 6 (.loop (.seq (.reg [⟨(some 62), .bin .lss (.t 61) (.t 60), none⟩])
  (.seq (.cond (.t 62) .skip (.exit 6))
  (.seq (.block 7 (.seq (.reg [⟨(some 63), .iaddr 1 (.t 59) (.t 61), none⟩, ⟨(some 64), .load (.t 63), none⟩, ⟨(some 15), .move (.t 64), none⟩])
  (.reg [⟨(some 65), .move (.t 13), none⟩, ⟨(some 66), .move (.t 6), none⟩, ⟨(some 67), .move (.t 15), none⟩, ⟨(some 68), .iaddr 1 (.t 66) (.t 67), none⟩, ⟨(some 69), .load (.t 68), none⟩, ⟨(some 70), .buildSlice 3 1 1 [(.int .i64 (.ofNat 0))] [(0, (.t 69))], none⟩, ⟨(some 71), .append 3 1 8 (.t 65) (.t 70), none⟩, ⟨(some 13), .move (.t 71), none⟩])))
  (.reg [⟨(some 72), .bin .add (.t 61) (.c (.int .i64 (.ofNat 1))), none⟩, ⟨(some 61), .move (.t 72), none⟩])))))))
  (.draw [(⟨(some 73), .faddr 3 (.t 10), none⟩, 0), (⟨(some 74), .load (.t 73), none⟩, 0), (⟨(some 75), .move (.t 13), none⟩, 0), (⟨(some 76), .buildSlice 22 1 1 [(.slice none 0 0)] [(0, (.t 75))], none⟩, 0), (⟨(some 78), .faddr 2 (.t 10), none⟩, 1), (⟨(some 79), .load (.t 78), none⟩, 1), (⟨(some 80), .faddr 2 (.t 1), none⟩, 1), (⟨(some 81), .load (.t 80), none⟩, 1), (⟨(some 82), .move (.t 12), none⟩, 1), (⟨(some 83), .iaddr 1 (.t 81) (.t 82), none⟩, 1), (⟨(some 84), .load (.t 83), none⟩, 1), (⟨(some 85), .buildSlice 4 1 1 [(.bool false)] [(0, (.t 84))], none⟩, 1), (⟨(some 77), .append 22 1 24 (.t 74) (.t 76), none⟩, 1), (⟨(some 87), .faddr 3 (.t 10), none⟩, 2), (⟨(some 86), .append 4 1 1 (.t 79) (.t 85), none⟩, 2), (⟨none, .store 1 (.t 87) (.t 77), none⟩, 3), (⟨(some 88), .faddr 2 (.t 10), none⟩, 3), (⟨none, .store 1 (.t 88) (.t 86), none⟩, 4)])))))
  (.reg [⟨(some 89), .bin .add (.t 51) (.c (.int .i64 (.ofNat 1))), none⟩, ⟨(some 51), .move (.t 89), none⟩])))))))
  (.seq (.reg [⟨(some 90), .loadN 4 (.t 10), none⟩, ⟨(some 91), .move (.t 6), none⟩, ⟨none, .store 4 (.t 2) (.t 90), none⟩, ⟨(some 3), .move (.t 91), none⟩])
  .ret))))))))⟩
theorem ok_ref07_Trim : cFunc Go.Proofs.Try.prog Go.Proofs.Try.f111 = some c_ref07_Trim := by kernel_rfl
abbrev n_ref08_number : Nat := 126
def c_ref08_number : CFunc := ⟨39, [.tmp 2], (.seq (.reg [⟨(some 2), .move (.c (.slice none 0 0)), none⟩])
  (.seq (.reg [⟨(some 9), .mkMap, none⟩, ⟨(some 3), .move (.t 9), none⟩])
  (.seq (.reg [⟨(some 10), .move (.t 0), none⟩, ⟨(some 11), .lenSl (.t 10), none⟩, ⟨(some 12), .mkSlice 3 8 1 [(.int .i64 (.ofNat 0))] (.t 11) (.t 11), none⟩, ⟨(some 4), .move (.t 12), none⟩])
  (.seq (.seq (.reg [⟨(some 13), .move (.t 0), none⟩, ⟨(some 14), .lenSl (.t 13), none⟩, ⟨(some 15), .move (.c (.int .i64 (.ofNat 0))), none⟩])
  (.block 0 (.loop (.seq (.reg [⟨(some 16), .bin .lss (.t 15) (.t 14), none⟩])
  (.seq (.cond (.t 16) .skip (.exit 0))
  (.seq (.block 1 (.seq (.reg [⟨(some 17), .move (.t 15), none⟩, ⟨(some 18), .iaddr 1 (.t 13) (.t 15), none⟩, ⟨(some 19), .load (.t 18), none⟩, ⟨(some 5), .move (.t 17), none⟩, ⟨(some 6), .move (.t 19), none⟩])
  (.seq (.reg [⟨(some 21), .move (.t 3), none⟩, ⟨(some 22), .move (.t 6), none⟩, ⟨(some 23), .lookup (.one .int) (.int .i64 (.ofNat 0)) true (.t 21) (.t 22), none⟩, ⟨(some 20), .move (.t 23), none⟩, ⟨(some 24), .extract 0 (.t 20), none⟩, ⟨(some 25), .extract 1 (.t 20), none⟩, ⟨(some 7), .move (.t 24), none⟩, ⟨(some 8), .move (.t 25), none⟩])
  (.seq (.seq (.reg [⟨(some 26), .move (.t 8), none⟩, ⟨(some 27), .not (.t 26), none⟩])
  (.cond (.t 27) (.seq (.reg [⟨(some 28), .move (.t 3), none⟩, ⟨(some 29), .lenMap (.t 28), none⟩, ⟨(some 7), .move (.t 29), none⟩])
  (.reg [⟨(some 30), .move (.t 3), none⟩, ⟨(some 31), .move (.t 6), none⟩, ⟨(some 32), .move (.t 7), none⟩, ⟨none, .mapSet (.one .int) (.t 30) (.t 31) (.t 32), none⟩])) .skip))
  (.reg [⟨(some 33), .move (.t 4), none⟩, ⟨(some 34), .move (.t 5), none⟩, ⟨(some 35), .move (.t 7), none⟩, ⟨(some 36), .iaddr 1 (.t 33) (.t 34), none⟩, ⟨none, .store 1 (.t 36) (.t 35), none⟩])))))
  (.reg [⟨(some 37), .bin .add (.t 15) (.c (.int .i64 (.ofNat 1))), none⟩, ⟨(some 15), .move (.t 37), none⟩])))))))
  (.seq (.reg [⟨(some 38), .move (.t 4), none⟩, ⟨(some 2), .move (.t 38), none⟩])
  .ret)))))⟩
theorem ok_ref08_number : cFunc Go.Proofs.Try.prog Go.Proofs.Try.f126 = some c_ref08_number := by kernel_rfl
abbrev n_ref08_both : Nat := 127
def c_ref08_both : CFunc := ⟨34, [.tmp 4], (.seq (.reg [⟨(some 4), .move (.c (.slice none 0 0)), none⟩])
  (.seq (.reg [⟨(some 7), .move (.t 0), none⟩, ⟨(some 8), .lenSl (.t 7), none⟩, ⟨(some 9), .mkSlice 3 8 1 [(.int .i64 (.ofNat 0))] (.t 8) (.t 8), none⟩, ⟨(some 5), .move (.t 9), none⟩])
  (.seq (.seq (.reg [⟨(some 10), .move (.t 0), none⟩, ⟨(some 11), .lenSl (.t 10), none⟩, ⟨(some 12), .move (.c (.int .i64 (.ofNat 0))), none⟩])
  (.block 0 (.loop (.seq (.reg [⟨(some 13), .bin .lss (.t 12) (.t 11), none⟩])
  (.seq (.cond (.t 13) .skip (.exit 0))
  (.seq (.block 1 (.seq (.reg [⟨(some 14), .move (.t 12), none⟩, ⟨(some 6), .move (.t 14), none⟩])
  (.draw [(⟨(some 15), .move (.t 5), none⟩, 0), (⟨(some 16), .move (.t 6), none⟩, 0), (⟨(some 17), .move (.t 0), none⟩, 0), (⟨(some 18), .move (.t 6), none⟩, 0), (⟨(some 19), .iaddr 1 (.t 17) (.t 18), none⟩, 0), (⟨(some 20), .load (.t 19), none⟩, 0), (⟨(some 21), .move (.t 0), none⟩, 0), (⟨(some 22), .lenSl (.t 21), none⟩, 0), (⟨(some 23), .bin .add (.t 22) (.c (.int .i64 (.ofNat 1))), none⟩, 0), (⟨(some 24), .bin .mul (.t 20) (.t 23), none⟩, 0), (⟨(some 25), .move (.t 1), none⟩, 0), (⟨(some 26), .move (.t 6), none⟩, 0), (⟨(some 27), .iaddr 1 (.t 25) (.t 26), none⟩, 0), (⟨(some 28), .load (.t 27), none⟩, 0), (⟨(some 29), .bin .add (.t 24) (.t 28), none⟩, 0), (⟨(some 30), .iaddr 1 (.t 15) (.t 16), none⟩, 0), (⟨none, .store 1 (.t 30) (.t 29), none⟩, 1)])))
  (.reg [⟨(some 31), .bin .add (.t 12) (.c (.int .i64 (.ofNat 1))), none⟩, ⟨(some 12), .move (.t 31), none⟩])))))))
  (.seq (.reg [⟨(some 32), .move (.t 5), none⟩, ⟨(some 33), .call 126 [(.t 32)], none⟩, ⟨(some 4), .move (.t 33), none⟩])
  .ret))))⟩
theorem ok_ref08_both : cFunc Go.Proofs.Try.prog Go.Proofs.Try.f127 = some c_ref08_both := by kernel_rfl
abbrev n_ref07_Access : Nat := 128
def c_ref07_Access : CFunc := ⟨72, [.tmp 2, .tmp 3], (.seq (.reg [⟨(some 1), .box 32 (.t 0), none⟩, ⟨(some 2), .move (.c (.slice none 0 0)), none⟩, ⟨(some 3), .move (.c (.slice none 0 0)), none⟩])
  (.seq (.reg [⟨(some 10), .faddr 1 (.t 1), none⟩, ⟨(some 11), .load (.t 10), none⟩, ⟨(some 12), .buildSlice 3 1 1 [(.int .i64 (.ofNat 0))] [(0, (.t 11))], none⟩, ⟨(some 13), .buildSlice 9 1 1 [(.string ⟨⟨[]⟩⟩)] [(0, (.c (.string ⟨⟨[]⟩⟩)))], none⟩, ⟨(some 4), .move (.t 12), none⟩, ⟨(some 5), .move (.t 13), none⟩])
  (.seq (.reg [⟨(some 14), .faddr 2 (.t 1), none⟩, ⟨(some 15), .load (.t 14), none⟩, ⟨(some 16), .lenSl (.t 15), none⟩, ⟨(some 17), .mkSlice 4 1 1 [(.bool false)] (.t 16) (.t 16), none⟩, ⟨(some 6), .move (.t 17), none⟩])
  (.seq (.reg [⟨(some 18), .move (.t 6), none⟩, ⟨(some 19), .faddr 1 (.t 1), none⟩, ⟨(some 20), .load (.t 19), none⟩, ⟨(some 21), .iaddr 1 (.t 18) (.t 20), none⟩, ⟨none, .store 1 (.t 21) (.c (.bool true)), none⟩])
  (.seq (.seq (.reg [⟨(some 7), .move (.c (.int .i64 (.ofNat 0))), none⟩])
  (.block 0 (.loop (.seq (.seq (.reg [⟨(some 22), .move (.t 7), none⟩, ⟨(some 23), .move (.t 4), none⟩, ⟨(some 24), .lenSl (.t 23), none⟩, ⟨(some 25), .bin .lss (.t 22) (.t 24), none⟩])
  (.cond (.t 25) .skip (.exit 0)))
  (.seq (.block 1 (.seq (.reg [⟨(some 8), .move (.c (.int .i64 (.ofNat 0))), none⟩])
  (.block 2 (.loop (.seq (.seq (.reg [⟨(some 28), .move (.t 8), none⟩, ⟨(some 29), .faddr 0 (.t 1), none⟩, ⟨(some 30), .load (.t 29), none⟩, ⟨(some 31), .bin .lss (.t 28) (.t 30), none⟩])
  (.cond (.t 31) .skip (.exit 2)))
  (.seq (.block 3 (.seq (.draw [(⟨(some 34), .faddr 3 (.t 1), none⟩, 0), (⟨(some 35), .load (.t 34), none⟩, 0), (⟨(some 36), .move (.t 4), none⟩, 0), (⟨(some 37), .move (.t 7), none⟩, 0), (⟨(some 38), .iaddr 1 (.t 36) (.t 37), none⟩, 0), (⟨(some 39), .load (.t 38), none⟩, 0), (⟨(some 40), .iaddr 1 (.t 35) (.t 39), none⟩, 0), (⟨(some 41), .load (.t 40), none⟩, 0), (⟨(some 42), .move (.t 8), none⟩, 0), (⟨(some 43), .iaddr 1 (.t 41) (.t 42), none⟩, 0), (⟨(some 44), .load (.t 43), none⟩, 0), (⟨(some 9), .move (.t 44), none⟩, 0)])
  (.seq (.reg [⟨(some 45), .move (.t 6), none⟩, ⟨(some 46), .move (.t 9), none⟩, ⟨(some 47), .iaddr 1 (.t 45) (.t 46), none⟩, ⟨(some 48), .load (.t 47), none⟩, ⟨(some 49), .not (.t 48), none⟩])
  (.cond (.t 49) (.seq (.reg [⟨(some 50), .move (.t 6), none⟩, ⟨(some 51), .move (.t 9), none⟩, ⟨(some 52), .iaddr 1 (.t 50) (.t 51), none⟩, ⟨none, .store 1 (.t 52) (.c (.bool true)), none⟩])
  (.draw [(⟨(some 53), .move (.t 4), none⟩, 0), (⟨(some 54), .move (.t 9), none⟩, 0), (⟨(some 55), .buildSlice 3 1 1 [(.int .i64 (.ofNat 0))] [(0, (.t 54))], none⟩, 0), (⟨(some 57), .move (.t 5), none⟩, 1), (⟨(some 58), .move (.t 5), none⟩, 1), (⟨(some 59), .move (.t 7), none⟩, 1), (⟨(some 60), .iaddr 1 (.t 58) (.t 59), none⟩, 1), (⟨(some 61), .load (.t 60), none⟩, 1), (⟨(some 62), .move (.t 8), none⟩, 1), (⟨(some 63), .bin .add (.c (.int .i64 (.ofNat 97))) (.t 62), none⟩, 1), (⟨(some 64), .conv .u8 (.t 63), none⟩, 1), (⟨(some 65), .buildSlice 5 1 1 [(.int .u8 (.ofNat 0))] [(0, (.t 64))], none⟩, 1), (⟨(some 66), .strOf (.t 65), none⟩, 1), (⟨(some 67), .bin .add (.t 61) (.t 66), none⟩, 1), (⟨(some 68), .buildSlice 9 1 1 [(.string ⟨⟨[]⟩⟩)] [(0, (.t 67))], none⟩, 1), (⟨(some 56), .append 3 1 8 (.t 53) (.t 55), none⟩, 1), (⟨(some 69), .append 9 1 16 (.t 57) (.t 68), none⟩, 2), (⟨(some 4), .move (.t 56), none⟩, 2), (⟨(some 5), .move (.t 69), none⟩, 2)])) .skip))))
  (.reg [⟨(some 32), .move (.t 8), none⟩, ⟨(some 33), .bin .add (.t 32) (.c (.int .i64 (.ofNat 1))), none⟩, ⟨(some 8), .move (.t 33), none⟩])))))))
  (.reg [⟨(some 26), .move (.t 7), none⟩, ⟨(some 27), .bin .add (.t 26) (.c (.int .i64 (.ofNat 1))), none⟩, ⟨(some 7), .move (.t 27), none⟩]))))))
  (.seq (.reg [⟨(some 70), .move (.t 4), none⟩, ⟨(some 71), .move (.t 5), none⟩, ⟨(some 2), .move (.t 70), none⟩, ⟨(some 3), .move (.t 71), none⟩])
  .ret))))))⟩
theorem ok_ref07_Access : cFunc Go.Proofs.Try.prog Go.Proofs.Try.f128 = some c_ref07_Access := by kernel_rfl
def kprog : Nat → Option CFunc
  | 7 => some c_law37_CountingMade
  | 8 => some c_made_New
  | 9 => some c_made_Tape_Next
  | 11 => some c_made_Tape_Word
  | 21 => some c_made_Tape_Counts
  | 22 => some c_counting_Match
  | 23 => some trueFn
  | 24 => some c_law37_all
  | 25 => some c_made_Mod
  | 26 => some c_counting_Validate
  | 27 => some c_ref37_Validate
  | 28 => some c_ref37_Match
  | 38 => some c_machine_Minimal
  | 42 => some c_machine_DFA
  | 44 => some c_word_Valid
  | 49 => some c_ref01_MayLetters
  | 54 => some c_ref01_Valid
  | 60 => some c_counting_next
  | 64 => some c_counting_Dfa
  | 65 => some c_ref37_Dfa
  | 66 => some c_ref07_Same
  | 67 => some c_counting_size
  | 68 => some c_ref37_Size
  | 69 => some c_ref37_At
  | 70 => some c_machine_trim
  | 75 => some c_dfa_Validate
  | 79 => some c_ref03_Same
  | 92 => some c_ref08_Minimal
  | 98 => some c_ref37_As
  | 110 => some c_ref08_Classes
  | 111 => some c_ref07_Trim
  | 126 => some c_ref08_number
  | 127 => some c_ref08_both
  | 128 => some c_ref07_Access
  | _ => none
theorem p_law37_CountingMade : kprog n_law37_CountingMade = some c_law37_CountingMade := rfl
theorem p_made_New : kprog n_made_New = some c_made_New := rfl
theorem p_made_Tape_Next : kprog n_made_Tape_Next = some c_made_Tape_Next := rfl
theorem p_made_Tape_Word : kprog n_made_Tape_Word = some c_made_Tape_Word := rfl
theorem p_made_Tape_Counts : kprog n_made_Tape_Counts = some c_made_Tape_Counts := rfl
theorem p_counting_Match : kprog n_counting_Match = some c_counting_Match := rfl
theorem p_law37_known : kprog n_law37_known = some trueFn := rfl
theorem p_law37_all : kprog n_law37_all = some c_law37_all := rfl
theorem p_made_Mod : kprog n_made_Mod = some c_made_Mod := rfl
theorem p_counting_Validate : kprog n_counting_Validate = some c_counting_Validate := rfl
theorem p_ref37_Validate : kprog n_ref37_Validate = some c_ref37_Validate := rfl
theorem p_ref37_Match : kprog n_ref37_Match = some c_ref37_Match := rfl
theorem p_machine_Minimal : kprog n_machine_Minimal = some c_machine_Minimal := rfl
theorem p_machine_DFA : kprog n_machine_DFA = some c_machine_DFA := rfl
theorem p_word_Valid : kprog n_word_Valid = some c_word_Valid := rfl
theorem p_ref01_MayLetters : kprog n_ref01_MayLetters = some c_ref01_MayLetters := rfl
theorem p_ref01_Valid : kprog n_ref01_Valid = some c_ref01_Valid := rfl
theorem p_counting_next : kprog n_counting_next = some c_counting_next := rfl
theorem p_counting_Dfa : kprog n_counting_Dfa = some c_counting_Dfa := rfl
theorem p_ref37_Dfa : kprog n_ref37_Dfa = some c_ref37_Dfa := rfl
theorem p_ref07_Same : kprog n_ref07_Same = some c_ref07_Same := rfl
theorem p_counting_size : kprog n_counting_size = some c_counting_size := rfl
theorem p_ref37_Size : kprog n_ref37_Size = some c_ref37_Size := rfl
theorem p_ref37_At : kprog n_ref37_At = some c_ref37_At := rfl
theorem p_machine_trim : kprog n_machine_trim = some c_machine_trim := rfl
theorem p_dfa_Validate : kprog n_dfa_Validate = some c_dfa_Validate := rfl
theorem p_ref03_Same : kprog n_ref03_Same = some c_ref03_Same := rfl
theorem p_ref08_Minimal : kprog n_ref08_Minimal = some c_ref08_Minimal := rfl
theorem p_ref37_As : kprog n_ref37_As = some c_ref37_As := rfl
theorem p_ref08_Classes : kprog n_ref08_Classes = some c_ref08_Classes := rfl
theorem p_ref07_Trim : kprog n_ref07_Trim = some c_ref07_Trim := rfl
theorem p_ref08_number : kprog n_ref08_number = some c_ref08_number := rfl
theorem p_ref08_both : kprog n_ref08_both = some c_ref08_both := rfl
theorem p_ref07_Access : kprog n_ref07_Access = some c_ref07_Access := rfl
theorem kprog_ok (h23 : ∀ w, Calls Go.Proofs.Try.prog 23 #[] w fun e w' => e = .returned (.bool true) ∧ Go.RowKit.Below w.heap.size w w') : ProgOk Go.Proofs.Try.prog kprog := by
  intro f cf h
  unfold kprog at h
  split at h
  · cases h; exact .inl ⟨_, Go.Proofs.Try.func7, ok_law37_CountingMade, by decide +kernel⟩
  · cases h; exact .inl ⟨_, Go.Proofs.Try.func8, ok_made_New, by decide +kernel⟩
  · cases h; exact .inl ⟨_, Go.Proofs.Try.func9, ok_made_Tape_Next, by decide +kernel⟩
  · cases h; exact .inl ⟨_, Go.Proofs.Try.func11, ok_made_Tape_Word, by decide +kernel⟩
  · cases h; exact .inl ⟨_, Go.Proofs.Try.func21, ok_made_Tape_Counts, by decide +kernel⟩
  · cases h; exact .inl ⟨_, Go.Proofs.Try.func22, ok_counting_Match, by decide +kernel⟩
  · cases h; exact .inr ⟨rfl, ⟨_, Go.Proofs.Try.func23, by decide +kernel, by decide +kernel⟩, h23⟩
  · cases h; exact .inl ⟨_, Go.Proofs.Try.func24, ok_law37_all, by decide +kernel⟩
  · cases h; exact .inl ⟨_, Go.Proofs.Try.func25, ok_made_Mod, by decide +kernel⟩
  · cases h; exact .inl ⟨_, Go.Proofs.Try.func26, ok_counting_Validate, by decide +kernel⟩
  · cases h; exact .inl ⟨_, Go.Proofs.Try.func27, ok_ref37_Validate, by decide +kernel⟩
  · cases h; exact .inl ⟨_, Go.Proofs.Try.func28, ok_ref37_Match, by decide +kernel⟩
  · cases h; exact .inl ⟨_, Go.Proofs.Try.func38, ok_machine_Minimal, by decide +kernel⟩
  · cases h; exact .inl ⟨_, Go.Proofs.Try.func42, ok_machine_DFA, by decide +kernel⟩
  · cases h; exact .inl ⟨_, Go.Proofs.Try.func44, ok_word_Valid, by decide +kernel⟩
  · cases h; exact .inl ⟨_, Go.Proofs.Try.func49, ok_ref01_MayLetters, by decide +kernel⟩
  · cases h; exact .inl ⟨_, Go.Proofs.Try.func54, ok_ref01_Valid, by decide +kernel⟩
  · cases h; exact .inl ⟨_, Go.Proofs.Try.func60, ok_counting_next, by decide +kernel⟩
  · cases h; exact .inl ⟨_, Go.Proofs.Try.func64, ok_counting_Dfa, by decide +kernel⟩
  · cases h; exact .inl ⟨_, Go.Proofs.Try.func65, ok_ref37_Dfa, by decide +kernel⟩
  · cases h; exact .inl ⟨_, Go.Proofs.Try.func66, ok_ref07_Same, by decide +kernel⟩
  · cases h; exact .inl ⟨_, Go.Proofs.Try.func67, ok_counting_size, by decide +kernel⟩
  · cases h; exact .inl ⟨_, Go.Proofs.Try.func68, ok_ref37_Size, by decide +kernel⟩
  · cases h; exact .inl ⟨_, Go.Proofs.Try.func69, ok_ref37_At, by decide +kernel⟩
  · cases h; exact .inl ⟨_, Go.Proofs.Try.func70, ok_machine_trim, by decide +kernel⟩
  · cases h; exact .inl ⟨_, Go.Proofs.Try.func75, ok_dfa_Validate, by decide +kernel⟩
  · cases h; exact .inl ⟨_, Go.Proofs.Try.func79, ok_ref03_Same, by decide +kernel⟩
  · cases h; exact .inl ⟨_, Go.Proofs.Try.func92, ok_ref08_Minimal, by decide +kernel⟩
  · cases h; exact .inl ⟨_, Go.Proofs.Try.func98, ok_ref37_As, by decide +kernel⟩
  · cases h; exact .inl ⟨_, Go.Proofs.Try.func110, ok_ref08_Classes, by decide +kernel⟩
  · cases h; exact .inl ⟨_, Go.Proofs.Try.func111, ok_ref07_Trim, by decide +kernel⟩
  · cases h; exact .inl ⟨_, Go.Proofs.Try.func126, ok_ref08_number, by decide +kernel⟩
  · cases h; exact .inl ⟨_, Go.Proofs.Try.func127, ok_ref08_both, by decide +kernel⟩
  · cases h; exact .inl ⟨_, Go.Proofs.Try.func128, ok_ref07_Access, by decide +kernel⟩
  · cases h
theorem mixed : Go.Proofs.Try.prog.follows .mixedOrders = true := by kernel_rfl
end Go.EvK
end
