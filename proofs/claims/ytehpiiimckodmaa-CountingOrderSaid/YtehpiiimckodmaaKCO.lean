/- The functions that the law CountingOrder reaches, as the evaluator reads them. -/
import Derived.Test.YtehpiiimckodmaaProg
import Derived.KernelRfl
import Derived.Test.YtehpiiimckodmaaEv3
set_option linter.unusedVariables false
set_option linter.unusedSimpArgs false
section
namespace Go.EvK
open Go Go.Ev
abbrev n_law37_CountingOrder : Nat := 5
def c_law37_CountingOrder : CFunc := ⟨71, [.tmp 6], (.seq (.reg [⟨(some 6), .move (.c (.bool false)), none⟩])
  (.seq (.reg [⟨(some 15), .move (.t 0), none⟩, ⟨(some 16), .call 8 [(.t 15)], none⟩, ⟨(some 7), .move (.t 16), none⟩])
  (.seq (.reg [⟨(some 17), .move (.t 7), none⟩, ⟨(some 18), .call 9 [(.t 17), (.c (.int .i64 (.ofNat 3)))], none⟩, ⟨(some 19), .bin .add (.c (.int .i64 (.ofNat 1))) (.t 18), none⟩, ⟨(some 8), .move (.t 19), none⟩])
  (.seq (.reg [⟨(some 20), .move (.t 7), none⟩, ⟨(some 21), .move (.t 8), none⟩, ⟨(some 22), .call 21 [(.t 20), (.t 21)], none⟩, ⟨(some 9), .alloc 53 [(.slice none 0 0), (.slice none 0 0), (.slice none 0 0)], none⟩, ⟨none, .store 3 (.t 9) (.t 22), none⟩])
  (.seq (.reg [⟨(some 23), .move (.t 1), none⟩, ⟨(some 24), .call 8 [(.t 23)], none⟩, ⟨(some 25), .move (.t 8), none⟩, ⟨(some 26), .call 11 [(.t 24), (.t 25), (.c (.int .i64 (.ofNat 16)))], none⟩, ⟨(some 27), .bytesOf 5 (.t 26), none⟩, ⟨(some 10), .move (.t 27), none⟩])
  (.seq (.reg [⟨(some 28), .loadN 3 (.t 9), none⟩, ⟨(some 29), .move (.t 10), none⟩, ⟨(some 30), .strOf (.t 29), none⟩, ⟨(some 31), .call 22 [(.t 28), (.t 30)], none⟩, ⟨(some 11), .move (.t 31), none⟩])
  (.seq (.reg [⟨(some 32), .move (.t 2), none⟩, ⟨(some 33), .call 8 [(.t 32)], none⟩, ⟨(some 12), .move (.t 33), none⟩])
  (.seq (.seq (.reg [⟨(some 34), .move (.t 10), none⟩, ⟨(some 35), .lenSl (.t 34), none⟩, ⟨(some 36), .move (.c (.int .i64 (.ofNat 0))), none⟩])
  (.block 0 (.loop (.seq (.reg [⟨(some 37), .bin .lss (.t 36) (.t 35), none⟩])
  (.seq (.cond (.t 37) .skip (.exit 0))
  (.seq (.block 1 (.seq (.reg [⟨(some 38), .move (.t 36), none⟩, ⟨(some 13), .move (.t 38), none⟩])
  (.seq (.reg [⟨(some 39), .move (.t 13), none⟩, ⟨(some 40), .move (.t 12), none⟩, ⟨(some 41), .move (.t 10), none⟩, ⟨(some 42), .lenSl (.t 41), none⟩, ⟨(some 43), .move (.t 13), none⟩, ⟨(some 44), .bin .sub (.t 42) (.t 43), none⟩, ⟨(some 45), .call 9 [(.t 40), (.t 44)], none⟩, ⟨(some 46), .bin .add (.t 39) (.t 45), none⟩, ⟨(some 14), .move (.t 46), none⟩])
  (.draw [(⟨(some 47), .move (.t 10), none⟩, 0), (⟨(some 48), .move (.t 13), none⟩, 0), (⟨(some 49), .move (.t 10), none⟩, 1), (⟨(some 50), .move (.t 14), none⟩, 1), (⟨(some 51), .move (.t 10), none⟩, 0), (⟨(some 52), .move (.t 14), none⟩, 0), (⟨(some 53), .iaddr 1 (.t 51) (.t 52), none⟩, 0), (⟨(some 54), .load (.t 53), none⟩, 0), (⟨(some 55), .move (.t 10), none⟩, 0), (⟨(some 56), .move (.t 13), none⟩, 0), (⟨(some 57), .iaddr 1 (.t 55) (.t 56), none⟩, 0), (⟨(some 58), .load (.t 57), none⟩, 0), (⟨(some 59), .iaddr 1 (.t 47) (.t 48), none⟩, 0), (⟨none, .store 1 (.t 59) (.t 54), none⟩, 1), (⟨(some 60), .iaddr 1 (.t 49) (.t 50), none⟩, 1), (⟨none, .store 1 (.t 60) (.t 58), none⟩, 2)]))))
  (.reg [⟨(some 61), .bin .add (.t 36) (.c (.int .i64 (.ofNat 1))), none⟩, ⟨(some 36), .move (.t 61), none⟩])))))))
  (.seq (.reg [⟨(some 62), .loadN 3 (.t 9), none⟩, ⟨(some 63), .move (.t 10), none⟩, ⟨(some 64), .strOf (.t 63), none⟩, ⟨(some 65), .call 22 [(.t 62), (.t 64)], none⟩, ⟨(some 66), .move (.t 11), none⟩, ⟨(some 67), .eqB false (.t 65) (.t 66), none⟩, ⟨(some 68), .move (.t 67), none⟩, ⟨(some 69), .call 23 [], (some (68, true))⟩, ⟨(some 70), .pick (.t 68) (.t 69) (.c (.bool false)), none⟩, ⟨(some 6), .move (.t 70), none⟩])
  .ret)))))))))⟩
theorem ok_law37_CountingOrder : cFunc Go.Proofs.Try.prog Go.Proofs.Try.f5 = some c_law37_CountingOrder := by kernel_rfl
abbrev n_made_New : Nat := 8
def c_made_New : CFunc := ⟨11, [.tmp 2], (.seq (.reg [⟨(some 2), .move (.c (.pointer none)), none⟩])
  (.seq (.seq (.reg [⟨(some 3), .move (.t 0), none⟩, ⟨(some 4), .lenSl (.t 3), none⟩, ⟨(some 5), .bin .gtr (.t 4) (.c (.int .i64 (.ofNat 80))), none⟩])
  (.cond (.t 5) (.reg [⟨(some 6), .move (.t 0), none⟩, ⟨(some 7), .slice 1 (.t 6) none (some (.c (.int .i64 (.ofNat 80)))), none⟩, ⟨(some 0), .move (.t 7), none⟩]) .skip))
  (.seq (.reg [⟨(some 8), .move (.t 0), none⟩, ⟨(some 9), .build [(.slice none 0 0), (.int .i64 (.ofNat 0))] [(0, 1, (.t 8))], none⟩, ⟨(some 10), .box 62 (.t 9), none⟩, ⟨(some 2), .move (.t 10), none⟩])
  .ret)))⟩
theorem ok_made_New : cFunc Go.Proofs.Try.prog Go.Proofs.Try.f8 = some c_made_New := by kernel_rfl
abbrev n_made_Tape_Next : Nat := 9
def c_made_Tape_Next : CFunc := ⟨35, [.tmp 4], (.seq (.reg [⟨(some 4), .move (.c (.int .i64 (.ofNat 0))), none⟩])
  (.seq (.seq (.draw [(⟨(some 5), .move (.t 0), none⟩, 0), (⟨(some 6), .nilCheck (.t 5), none⟩, 0), (⟨(some 7), .faddr 1 (.t 6), none⟩, 0), (⟨(some 8), .load (.t 7), none⟩, 0), (⟨(some 9), .move (.t 0), none⟩, 0), (⟨(some 10), .nilCheck (.t 9), none⟩, 0), (⟨(some 11), .faddr 0 (.t 10), none⟩, 0), (⟨(some 12), .load (.t 11), none⟩, 0), (⟨(some 13), .lenSl (.t 12), none⟩, 0), (⟨(some 14), .bin .geq (.t 8) (.t 13), none⟩, 0)])
  (.cond (.t 14) (.seq (.reg [⟨(some 4), .move (.c (.int .i64 (.ofNat 0))), none⟩])
  .ret) .skip))
  (.seq (.reg [⟨(some 15), .move (.t 0), none⟩, ⟨(some 16), .nilCheck (.t 15), none⟩, ⟨(some 17), .faddr 1 (.t 16), none⟩, ⟨(some 18), .load (.t 17), none⟩, ⟨(some 19), .bin .add (.t 18) (.c (.int .i64 (.ofNat 1))), none⟩, ⟨(some 20), .nilCheck (.t 15), none⟩, ⟨(some 21), .faddr 1 (.t 20), none⟩, ⟨none, .store 1 (.t 21) (.t 19), none⟩])
  (.seq (.draw [(⟨(some 22), .move (.t 0), none⟩, 0), (⟨(some 23), .nilCheck (.t 22), none⟩, 0), (⟨(some 24), .faddr 0 (.t 23), none⟩, 0), (⟨(some 25), .load (.t 24), none⟩, 0), (⟨(some 26), .move (.t 0), none⟩, 0), (⟨(some 27), .nilCheck (.t 26), none⟩, 0), (⟨(some 28), .faddr 1 (.t 27), none⟩, 0), (⟨(some 29), .load (.t 28), none⟩, 0), (⟨(some 30), .bin .sub (.t 29) (.c (.int .i64 (.ofNat 1))), none⟩, 0), (⟨(some 31), .iaddr 1 (.t 25) (.t 30), none⟩, 0), (⟨(some 32), .load (.t 31), none⟩, 0), (⟨(some 33), .move (.t 1), none⟩, 0), (⟨(some 34), .call 25 [(.t 32), (.t 33)], none⟩, 1), (⟨(some 4), .move (.t 34), none⟩, 1)])
  .ret))))⟩
theorem ok_made_Tape_Next : cFunc Go.Proofs.Try.prog Go.Proofs.Try.f9 = some c_made_Tape_Next := by kernel_rfl
abbrev n_made_Tape_Word : Nat := 11
def c_made_Tape_Word : CFunc := ⟨27, [.tmp 6], (.seq (.reg [⟨(some 6), .move (.c (.string ⟨⟨[]⟩⟩)), none⟩])
  (.seq (.reg [⟨(some 7), .move (.c (.slice none 0 0)), none⟩])
  (.seq (.seq (.reg [⟨(some 9), .move (.t 0), none⟩, ⟨(some 10), .move (.t 2), none⟩, ⟨(some 11), .bin .add (.t 10) (.c (.int .i64 (.ofNat 1))), none⟩, ⟨(some 12), .call 9 [(.t 9), (.t 11)], none⟩, ⟨(some 8), .move (.t 12), none⟩])
  (.block 0 (.loop (.seq (.seq (.reg [⟨(some 13), .move (.t 8), none⟩, ⟨(some 14), .bin .gtr (.t 13) (.c (.int .i64 (.ofNat 0))), none⟩])
  (.cond (.t 14) .skip (.exit 0)))
  (.seq (.block 1 (.reg [⟨(some 17), .move (.t 7), none⟩, ⟨(some 18), .move (.t 0), none⟩, ⟨(some 19), .move (.t 1), none⟩, ⟨(some 20), .call 9 [(.t 18), (.t 19)], none⟩, ⟨(some 21), .bin .add (.c (.int .i64 (.ofNat 97))) (.t 20), none⟩, ⟨(some 22), .conv .u8 (.t 21), none⟩, ⟨(some 23), .buildSlice 5 1 1 [(.int .u8 (.ofNat 0))] [(0, (.t 22))], none⟩, ⟨(some 24), .append 5 1 1 (.t 17) (.t 23), none⟩, ⟨(some 7), .move (.t 24), none⟩]))
  (.reg [⟨(some 15), .move (.t 8), none⟩, ⟨(some 16), .bin .sub (.t 15) (.c (.int .i64 (.ofNat 1))), none⟩, ⟨(some 8), .move (.t 16), none⟩]))))))
  (.seq (.reg [⟨(some 25), .move (.t 7), none⟩, ⟨(some 26), .strOf (.t 25), none⟩, ⟨(some 6), .move (.t 26), none⟩])
  .ret))))⟩
theorem ok_made_Tape_Word : cFunc Go.Proofs.Try.prog Go.Proofs.Try.f11 = some c_made_Tape_Word := by kernel_rfl
abbrev n_made_Tape_Counts : Nat := 21
def c_made_Tape_Counts : CFunc := ⟨56, [.cells 3 4], (.seq (.reg [⟨(some 4), .alloc 53 [(.slice none 0 0), (.slice none 0 0), (.slice none 0 0)], none⟩])
  (.seq (.reg [⟨(some 5), .alloc 53 [(.slice none 0 0), (.slice none 0 0), (.slice none 0 0)], none⟩])
  (.seq (.reg [⟨(some 6), .move (.c (.int .i64 (.ofNat 1))), none⟩])
  (.seq (.seq (.reg [⟨(some 7), .move (.c (.int .i64 (.ofNat 0))), none⟩])
  (.block 0 (.loop (.seq (.seq (.reg [⟨(some 9), .move (.t 7), none⟩, ⟨(some 10), .move (.t 1), none⟩, ⟨(some 11), .bin .lss (.t 9) (.t 10), none⟩])
  (.cond (.t 11) .skip (.exit 0)))
  (.seq (.block 1 (.seq (.draw [(⟨(some 14), .faddr 0 (.t 5), none⟩, 1), (⟨(some 15), .load (.t 14), none⟩, 1), (⟨(some 16), .move (.t 0), none⟩, 0), (⟨(some 20), .faddr 1 (.t 5), none⟩, 3), (⟨(some 21), .load (.t 20), none⟩, 3), (⟨(some 22), .move (.t 0), none⟩, 2), (⟨(some 17), .call 9 [(.t 16), (.c (.int .i64 (.ofNat 3)))], none⟩, 1), (⟨(some 18), .buildSlice 3 1 1 [(.int .i64 (.ofNat 0))] [(0, (.t 17))], none⟩, 1), (⟨(some 19), .append 3 1 8 (.t 15) (.t 18), none⟩, 2), (⟨(some 27), .faddr 0 (.t 5), none⟩, 4), (⟨(some 23), .call 9 [(.t 22), (.c (.int .i64 (.ofNat 3)))], none⟩, 3), (⟨(some 24), .bin .add (.c (.int .i64 (.ofNat 1))) (.t 23), none⟩, 3), (⟨(some 25), .buildSlice 3 1 1 [(.int .i64 (.ofNat 0))] [(0, (.t 24))], none⟩, 3), (⟨(some 26), .append 3 1 8 (.t 21) (.t 25), none⟩, 4), (⟨none, .store 1 (.t 27) (.t 19), none⟩, 5), (⟨(some 28), .faddr 1 (.t 5), none⟩, 5), (⟨none, .store 1 (.t 28) (.t 26), none⟩, 6)])
  (.draw [(⟨(some 29), .move (.t 6), none⟩, 0), (⟨(some 30), .faddr 0 (.t 5), none⟩, 0), (⟨(some 31), .load (.t 30), none⟩, 0), (⟨(some 32), .move (.t 7), none⟩, 0), (⟨(some 33), .iaddr 1 (.t 31) (.t 32), none⟩, 0), (⟨(some 34), .load (.t 33), none⟩, 0), (⟨(some 35), .faddr 1 (.t 5), none⟩, 0), (⟨(some 36), .load (.t 35), none⟩, 0), (⟨(some 37), .move (.t 7), none⟩, 0), (⟨(some 38), .iaddr 1 (.t 36) (.t 37), none⟩, 0), (⟨(some 39), .load (.t 38), none⟩, 0), (⟨(some 40), .bin .add (.t 34) (.t 39), none⟩, 0), (⟨(some 41), .bin .mul (.t 29) (.t 40), none⟩, 0), (⟨(some 6), .move (.t 41), none⟩, 0)])))
  (.reg [⟨(some 12), .move (.t 7), none⟩, ⟨(some 13), .bin .add (.t 12) (.c (.int .i64 (.ofNat 1))), none⟩, ⟨(some 7), .move (.t 13), none⟩]))))))
  (.seq (.seq (.reg [⟨(some 8), .move (.c (.int .i64 (.ofNat 0))), none⟩])
  (.block 2 (.loop (.seq (.seq (.reg [⟨(some 42), .move (.t 8), none⟩, ⟨(some 43), .move (.t 6), none⟩, ⟨(some 44), .bin .lss (.t 42) (.t 43), none⟩])
  (.cond (.t 44) .skip (.exit 2)))
  (.seq (.block 3 (.draw [(⟨(some 47), .faddr 2 (.t 5), none⟩, 1), (⟨(some 48), .load (.t 47), none⟩, 1), (⟨(some 49), .move (.t 0), none⟩, 0), (⟨(some 50), .call 9 [(.t 49), (.c (.int .i64 (.ofNat 2)))], none⟩, 1), (⟨(some 51), .bin .eql (.t 50) (.c (.int .i64 (.ofNat 1))), none⟩, 1), (⟨(some 52), .buildSlice 4 1 1 [(.bool false)] [(0, (.t 51))], none⟩, 1), (⟨(some 53), .append 4 1 1 (.t 48) (.t 52), none⟩, 2), (⟨(some 54), .faddr 2 (.t 5), none⟩, 2), (⟨none, .store 1 (.t 54) (.t 53), none⟩, 3)]))
  (.reg [⟨(some 45), .move (.t 8), none⟩, ⟨(some 46), .bin .add (.t 45) (.c (.int .i64 (.ofNat 1))), none⟩, ⟨(some 8), .move (.t 46), none⟩]))))))
  (.seq (.reg [⟨(some 55), .loadN 3 (.t 5), none⟩, ⟨none, .store 3 (.t 4) (.t 55), none⟩])
  .ret))))))⟩
theorem ok_made_Tape_Counts : cFunc Go.Proofs.Try.prog Go.Proofs.Try.f21 = some c_made_Tape_Counts := by kernel_rfl
abbrev n_counting_Match : Nat := 22
def c_counting_Match : CFunc := ⟨37, [.tmp 4], (.seq (.reg [⟨(some 2), .box 53 (.t 0), none⟩, ⟨(some 4), .move (.c (.bool false)), none⟩])
  (.seq (.seq (.reg [⟨(some 7), .loadN 3 (.t 2), none⟩, ⟨(some 8), .call 26 [(.t 7)], none⟩, ⟨(some 9), .bin .neq (.t 8) (.c (.int .i64 (.ofNat 0))), none⟩, ⟨(some 10), .move (.t 9), none⟩, ⟨(some 11), .move (.t 1), (some (10, false))⟩, ⟨(some 12), .faddr 0 (.t 2), (some (10, false))⟩, ⟨(some 13), .load (.t 12), (some (10, false))⟩, ⟨(some 14), .lenSl (.t 13), (some (10, false))⟩, ⟨(some 15), .call 44 [(.t 11), (.t 14)], (some (10, false))⟩, ⟨(some 16), .not (.t 15), (some (10, false))⟩, ⟨(some 17), .pick (.t 10) (.c (.bool true)) (.t 16), none⟩])
  (.cond (.t 17) (.seq (.reg [⟨(some 4), .move (.c (.bool false)), none⟩])
  .ret) .skip))
  (.seq (.reg [⟨(some 5), .move (.c (.int .i64 (.ofNat 0))), none⟩])
  (.seq (.seq (.reg [⟨(some 6), .move (.c (.int .i64 (.ofNat 0))), none⟩])
  (.block 0 (.loop (.seq (.seq (.reg [⟨(some 18), .move (.t 6), none⟩, ⟨(some 19), .move (.t 1), none⟩, ⟨(some 20), .lenStr (.t 19), none⟩, ⟨(some 21), .bin .lss (.t 18) (.t 20), none⟩])
  (.cond (.t 21) .skip (.exit 0)))
  (.seq (.block 1 (.draw [(⟨(some 24), .loadN 3 (.t 2), none⟩, 0), (⟨(some 25), .move (.t 5), none⟩, 0), (⟨(some 26), .move (.t 1), none⟩, 0), (⟨(some 27), .move (.t 6), none⟩, 0), (⟨(some 28), .idxStr (.t 26) (.t 27), none⟩, 0), (⟨(some 29), .bin .sub (.t 28) (.c (.int .u8 (.ofNat 97))), none⟩, 0), (⟨(some 30), .conv .i64 (.t 29), none⟩, 0), (⟨(some 31), .call 60 [(.t 24), (.t 25), (.t 30)], none⟩, 1), (⟨(some 5), .move (.t 31), none⟩, 1)]))
  (.reg [⟨(some 22), .move (.t 6), none⟩, ⟨(some 23), .bin .add (.t 22) (.c (.int .i64 (.ofNat 1))), none⟩, ⟨(some 6), .move (.t 23), none⟩]))))))
  (.seq (.reg [⟨(some 32), .faddr 2 (.t 2), none⟩, ⟨(some 33), .load (.t 32), none⟩, ⟨(some 34), .move (.t 5), none⟩, ⟨(some 35), .iaddr 1 (.t 33) (.t 34), none⟩, ⟨(some 36), .load (.t 35), none⟩, ⟨(some 4), .move (.t 36), none⟩])
  .ret)))))⟩
theorem ok_counting_Match : cFunc Go.Proofs.Try.prog Go.Proofs.Try.f22 = some c_counting_Match := by kernel_rfl
abbrev n_law37_known : Nat := 23
abbrev n_made_Mod : Nat := 25
def c_made_Mod : CFunc := ⟨16, [.tmp 4], (.seq (.reg [⟨(some 4), .move (.c (.int .i64 (.ofNat 0))), none⟩])
  (.seq (.seq (.reg [⟨(some 5), .move (.t 1), none⟩, ⟨(some 6), .bin .lss (.t 5) (.c (.int .i64 (.ofNat 1))), none⟩])
  (.cond (.t 6) (.seq (.reg [⟨(some 4), .move (.c (.int .i64 (.ofNat 0))), none⟩])
  .ret) .skip))
  (.seq (.reg [⟨(some 7), .move (.t 0), none⟩, ⟨(some 8), .move (.t 1), none⟩, ⟨(some 9), .bin .rem (.t 7) (.t 8), none⟩, ⟨(some 0), .move (.t 9), none⟩])
  (.seq (.seq (.reg [⟨(some 10), .move (.t 0), none⟩, ⟨(some 11), .bin .lss (.t 10) (.c (.int .i64 (.ofNat 0))), none⟩])
  (.cond (.t 11) (.reg [⟨(some 12), .move (.t 0), none⟩, ⟨(some 13), .move (.t 1), none⟩, ⟨(some 14), .bin .add (.t 12) (.t 13), none⟩, ⟨(some 0), .move (.t 14), none⟩]) .skip))
  (.seq (.reg [⟨(some 15), .move (.t 0), none⟩, ⟨(some 4), .move (.t 15), none⟩])
  .ret)))))⟩
theorem ok_made_Mod : cFunc Go.Proofs.Try.prog Go.Proofs.Try.f25 = some c_made_Mod := by kernel_rfl
abbrev n_counting_Validate : Nat := 26
def c_counting_Validate : CFunc := ⟨55, [.tmp 2], (.seq (.reg [⟨(some 1), .box 53 (.t 0), none⟩, ⟨(some 2), .move (.c (.int .i64 (.ofNat 0))), none⟩])
  (.seq (.seq (.reg [⟨(some 5), .faddr 0 (.t 1), none⟩, ⟨(some 6), .load (.t 5), none⟩, ⟨(some 7), .lenSl (.t 6), none⟩, ⟨(some 8), .bin .lss (.t 7) (.c (.int .i64 (.ofNat 1))), none⟩, ⟨(some 9), .move (.t 8), none⟩, ⟨(some 10), .faddr 0 (.t 1), (some (9, false))⟩, ⟨(some 11), .load (.t 10), (some (9, false))⟩, ⟨(some 12), .lenSl (.t 11), (some (9, false))⟩, ⟨(some 13), .bin .gtr (.t 12) (.c (.int .i64 (.ofNat 6))), (some (9, false))⟩, ⟨(some 14), .pick (.t 9) (.c (.bool true)) (.t 13), none⟩])
  (.cond (.t 14) (.seq (.reg [⟨(some 2), .move (.c (.int .i64 (.ofNat 1))), none⟩])
  .ret) .skip))
  (.seq (.seq (.reg [⟨(some 15), .faddr 1 (.t 1), none⟩, ⟨(some 16), .load (.t 15), none⟩, ⟨(some 17), .lenSl (.t 16), none⟩, ⟨(some 18), .faddr 0 (.t 1), none⟩, ⟨(some 19), .load (.t 18), none⟩, ⟨(some 20), .lenSl (.t 19), none⟩, ⟨(some 21), .bin .neq (.t 17) (.t 20), none⟩])
  (.cond (.t 21) (.seq (.reg [⟨(some 2), .move (.c (.int .i64 (.ofNat 22))), none⟩])
  .ret) .skip))
  (.seq (.seq (.reg [⟨(some 22), .faddr 0 (.t 1), none⟩, ⟨(some 23), .load (.t 22), none⟩, ⟨(some 24), .lenSl (.t 23), none⟩, ⟨(some 25), .move (.c (.int .i64 (.ofNat 0))), none⟩])
  (.block 0 (.loop (.seq (.reg [⟨(some 26), .bin .lss (.t 25) (.t 24), none⟩])
  (.seq (.cond (.t 26) .skip (.exit 0))
  (.seq (.block 1 (.seq (.reg [⟨(some 27), .move (.t 25), none⟩, ⟨(some 3), .move (.t 27), none⟩])
  (.seq (.reg [⟨(some 28), .faddr 0 (.t 1), none⟩, ⟨(some 29), .load (.t 28), none⟩, ⟨(some 30), .move (.t 3), none⟩, ⟨(some 31), .iaddr 1 (.t 29) (.t 30), none⟩, ⟨(some 32), .load (.t 31), none⟩, ⟨(some 33), .bin .lss (.t 32) (.c (.int .i64 (.ofNat 0))), none⟩, ⟨(some 34), .move (.t 33), none⟩, ⟨(some 35), .faddr 1 (.t 1), (some (34, false))⟩, ⟨(some 36), .load (.t 35), (some (34, false))⟩, ⟨(some 37), .move (.t 3), (some (34, false))⟩, ⟨(some 38), .iaddr 1 (.t 36) (.t 37), (some (34, false))⟩, ⟨(some 39), .load (.t 38), (some (34, false))⟩, ⟨(some 40), .bin .lss (.t 39) (.c (.int .i64 (.ofNat 1))), (some (34, false))⟩, ⟨(some 41), .pick (.t 34) (.c (.bool true)) (.t 40), none⟩])
  (.cond (.t 41) (.seq (.reg [⟨(some 2), .move (.c (.int .i64 (.ofNat 22))), none⟩])
  .ret) .skip))))
  (.reg [⟨(some 42), .bin .add (.t 25) (.c (.int .i64 (.ofNat 1))), none⟩, ⟨(some 25), .move (.t 42), none⟩])))))))
  (.seq (.reg [⟨(some 43), .faddr 0 (.t 1), none⟩, ⟨(some 44), .load (.t 43), none⟩, ⟨(some 45), .faddr 1 (.t 1), none⟩, ⟨(some 46), .load (.t 45), none⟩, ⟨(some 47), .call 67 [(.t 44), (.t 46)], none⟩, ⟨(some 4), .move (.t 47), none⟩])
  (.seq (.seq (.reg [⟨(some 48), .move (.t 4), none⟩, ⟨(some 49), .bin .gtr (.t 48) (.c (.int .i64 (.ofNat 2000))), none⟩])
  (.cond (.t 49) (.seq (.reg [⟨(some 2), .move (.c (.int .i64 (.ofNat 3))), none⟩])
  .ret) .skip))
  (.seq (.seq (.reg [⟨(some 50), .faddr 2 (.t 1), none⟩, ⟨(some 51), .load (.t 50), none⟩, ⟨(some 52), .lenSl (.t 51), none⟩, ⟨(some 53), .move (.t 4), none⟩, ⟨(some 54), .bin .neq (.t 52) (.t 53), none⟩])
  (.cond (.t 54) (.seq (.reg [⟨(some 2), .move (.c (.int .i64 (.ofNat 22))), none⟩])
  .ret) .skip))
  (.seq (.reg [⟨(some 2), .move (.c (.int .i64 (.ofNat 0))), none⟩])
  .ret))))))))⟩
theorem ok_counting_Validate : cFunc Go.Proofs.Try.prog Go.Proofs.Try.f26 = some c_counting_Validate := by kernel_rfl
abbrev n_word_Valid : Nat := 44
def c_word_Valid : CFunc := ⟨36, [.tmp 4], (.seq (.reg [⟨(some 4), .move (.c (.bool false)), none⟩])
  (.seq (.seq (.reg [⟨(some 6), .move (.t 1), none⟩, ⟨(some 7), .bin .lss (.t 6) (.c (.int .i64 (.ofNat 1))), none⟩, ⟨(some 8), .move (.t 7), none⟩, ⟨(some 9), .move (.t 1), (some (8, false))⟩, ⟨(some 10), .bin .gtr (.t 9) (.c (.int .i64 (.ofNat 6))), (some (8, false))⟩, ⟨(some 11), .pick (.t 8) (.c (.bool true)) (.t 10), none⟩, ⟨(some 12), .move (.t 11), none⟩, ⟨(some 13), .move (.t 0), (some (12, false))⟩, ⟨(some 14), .lenStr (.t 13), (some (12, false))⟩, ⟨(some 15), .bin .gtr (.t 14) (.c (.int .i64 (.ofNat 2048))), (some (12, false))⟩, ⟨(some 16), .pick (.t 12) (.c (.bool true)) (.t 15), none⟩])
  (.cond (.t 16) (.seq (.reg [⟨(some 4), .move (.c (.bool false)), none⟩])
  .ret) .skip))
  (.seq (.seq (.reg [⟨(some 5), .move (.c (.int .i64 (.ofNat 0))), none⟩])
  (.block 0 (.loop (.seq (.seq (.reg [⟨(some 17), .move (.t 5), none⟩, ⟨(some 18), .move (.t 0), none⟩, ⟨(some 19), .lenStr (.t 18), none⟩, ⟨(some 20), .bin .lss (.t 17) (.t 19), none⟩])
  (.cond (.t 20) .skip (.exit 0)))
  (.seq (.block 1 (.seq (.reg [⟨(some 23), .move (.t 0), none⟩, ⟨(some 24), .move (.t 5), none⟩, ⟨(some 25), .idxStr (.t 23) (.t 24), none⟩, ⟨(some 26), .bin .lss (.t 25) (.c (.int .u8 (.ofNat 97))), none⟩, ⟨(some 27), .move (.t 26), none⟩, ⟨(some 28), .move (.t 0), (some (27, false))⟩, ⟨(some 29), .move (.t 5), (some (27, false))⟩, ⟨(some 30), .idxStr (.t 28) (.t 29), (some (27, false))⟩, ⟨(some 31), .bin .sub (.t 30) (.c (.int .u8 (.ofNat 97))), (some (27, false))⟩, ⟨(some 32), .conv .i64 (.t 31), (some (27, false))⟩, ⟨(some 33), .move (.t 1), (some (27, false))⟩, ⟨(some 34), .bin .geq (.t 32) (.t 33), (some (27, false))⟩, ⟨(some 35), .pick (.t 27) (.c (.bool true)) (.t 34), none⟩])
  (.cond (.t 35) (.seq (.reg [⟨(some 4), .move (.c (.bool false)), none⟩])
  .ret) .skip)))
  (.reg [⟨(some 21), .move (.t 5), none⟩, ⟨(some 22), .bin .add (.t 21) (.c (.int .i64 (.ofNat 1))), none⟩, ⟨(some 5), .move (.t 22), none⟩]))))))
  (.seq (.reg [⟨(some 4), .move (.c (.bool true)), none⟩])
  .ret))))⟩
theorem ok_word_Valid : cFunc Go.Proofs.Try.prog Go.Proofs.Try.f44 = some c_word_Valid := by kernel_rfl
abbrev n_counting_next : Nat := 60
def c_counting_next : CFunc := ⟨75, [.tmp 6], (.seq (.reg [⟨(some 3), .box 53 (.t 0), none⟩, ⟨(some 6), .move (.c (.int .i64 (.ofNat 0))), none⟩])
  (.seq (.reg [⟨(some 7), .move (.c (.int .i64 (.ofNat 1))), none⟩])
  (.seq (.seq (.reg [⟨(some 10), .faddr 0 (.t 3), none⟩, ⟨(some 11), .load (.t 10), none⟩, ⟨(some 12), .lenSl (.t 11), none⟩, ⟨(some 13), .bin .sub (.t 12) (.c (.int .i64 (.ofNat 1))), none⟩, ⟨(some 8), .move (.t 13), none⟩])
  (.block 0 (.loop (.seq (.seq (.reg [⟨(some 14), .move (.t 8), none⟩, ⟨(some 15), .move (.t 2), none⟩, ⟨(some 16), .bin .gtr (.t 14) (.t 15), none⟩])
  (.cond (.t 16) .skip (.exit 0)))
  (.seq (.block 1 (.draw [(⟨(some 19), .move (.t 7), none⟩, 0), (⟨(some 20), .faddr 0 (.t 3), none⟩, 0), (⟨(some 21), .load (.t 20), none⟩, 0), (⟨(some 22), .move (.t 8), none⟩, 0), (⟨(some 23), .iaddr 1 (.t 21) (.t 22), none⟩, 0), (⟨(some 24), .load (.t 23), none⟩, 0), (⟨(some 25), .faddr 1 (.t 3), none⟩, 0), (⟨(some 26), .load (.t 25), none⟩, 0), (⟨(some 27), .move (.t 8), none⟩, 0), (⟨(some 28), .iaddr 1 (.t 26) (.t 27), none⟩, 0), (⟨(some 29), .load (.t 28), none⟩, 0), (⟨(some 30), .bin .add (.t 24) (.t 29), none⟩, 0), (⟨(some 31), .bin .mul (.t 19) (.t 30), none⟩, 0), (⟨(some 7), .move (.t 31), none⟩, 0)]))
  (.reg [⟨(some 17), .move (.t 8), none⟩, ⟨(some 18), .bin .sub (.t 17) (.c (.int .i64 (.ofNat 1))), none⟩, ⟨(some 8), .move (.t 18), none⟩]))))))
  (.seq (.draw [(⟨(some 32), .move (.t 1), none⟩, 0), (⟨(some 33), .move (.t 7), none⟩, 0), (⟨(some 34), .bin .quo (.t 32) (.t 33), none⟩, 0), (⟨(some 35), .faddr 0 (.t 3), none⟩, 0), (⟨(some 36), .load (.t 35), none⟩, 0), (⟨(some 37), .move (.t 2), none⟩, 0), (⟨(some 38), .iaddr 1 (.t 36) (.t 37), none⟩, 0), (⟨(some 39), .load (.t 38), none⟩, 0), (⟨(some 40), .faddr 1 (.t 3), none⟩, 0), (⟨(some 41), .load (.t 40), none⟩, 0), (⟨(some 42), .move (.t 2), none⟩, 0), (⟨(some 43), .iaddr 1 (.t 41) (.t 42), none⟩, 0), (⟨(some 44), .load (.t 43), none⟩, 0), (⟨(some 45), .bin .add (.t 39) (.t 44), none⟩, 0), (⟨(some 46), .bin .rem (.t 34) (.t 45), none⟩, 0), (⟨(some 9), .move (.t 46), none⟩, 0)])
  (.seq (.seq (.draw [(⟨(some 47), .move (.t 9), none⟩, 0), (⟨(some 48), .bin .add (.t 47) (.c (.int .i64 (.ofNat 1))), none⟩, 0), (⟨(some 49), .faddr 0 (.t 3), none⟩, 0), (⟨(some 50), .load (.t 49), none⟩, 0), (⟨(some 51), .move (.t 2), none⟩, 0), (⟨(some 52), .iaddr 1 (.t 50) (.t 51), none⟩, 0), (⟨(some 53), .load (.t 52), none⟩, 0), (⟨(some 54), .faddr 1 (.t 3), none⟩, 0), (⟨(some 55), .load (.t 54), none⟩, 0), (⟨(some 56), .move (.t 2), none⟩, 0), (⟨(some 57), .iaddr 1 (.t 55) (.t 56), none⟩, 0), (⟨(some 58), .load (.t 57), none⟩, 0), (⟨(some 59), .bin .add (.t 53) (.t 58), none⟩, 0), (⟨(some 60), .bin .eql (.t 48) (.t 59), none⟩, 0)])
  (.cond (.t 60) (.seq (.reg [⟨(some 61), .move (.t 1), none⟩, ⟨(some 62), .move (.t 9), none⟩, ⟨(some 63), .faddr 0 (.t 3), none⟩, ⟨(some 64), .load (.t 63), none⟩, ⟨(some 65), .move (.t 2), none⟩, ⟨(some 66), .iaddr 1 (.t 64) (.t 65), none⟩, ⟨(some 67), .load (.t 66), none⟩, ⟨(some 68), .bin .sub (.t 62) (.t 67), none⟩, ⟨(some 69), .move (.t 7), none⟩, ⟨(some 70), .bin .mul (.t 68) (.t 69), none⟩, ⟨(some 71), .bin .sub (.t 61) (.t 70), none⟩, ⟨(some 6), .move (.t 71), none⟩])
  .ret) .skip))
  (.seq (.reg [⟨(some 72), .move (.t 1), none⟩, ⟨(some 73), .move (.t 7), none⟩, ⟨(some 74), .bin .add (.t 72) (.t 73), none⟩, ⟨(some 6), .move (.t 74), none⟩])
  .ret))))))⟩
theorem ok_counting_next : cFunc Go.Proofs.Try.prog Go.Proofs.Try.f60 = some c_counting_next := by kernel_rfl
abbrev n_counting_size : Nat := 67
def c_counting_size : CFunc := ⟨38, [.tmp 4], (.seq (.reg [⟨(some 4), .move (.c (.int .i64 (.ofNat 0))), none⟩])
  (.seq (.reg [⟨(some 5), .move (.c (.int .i64 (.ofNat 1))), none⟩])
  (.seq (.seq (.reg [⟨(some 7), .move (.t 0), none⟩, ⟨(some 8), .lenSl (.t 7), none⟩, ⟨(some 9), .move (.c (.int .i64 (.ofNat 0))), none⟩])
  (.block 0 (.loop (.seq (.reg [⟨(some 10), .bin .lss (.t 9) (.t 8), none⟩])
  (.seq (.cond (.t 10) .skip (.exit 0))
  (.seq (.block 1 (.seq (.reg [⟨(some 11), .move (.t 9), none⟩, ⟨(some 6), .move (.t 11), none⟩])
  (.seq (.seq (.reg [⟨(some 12), .move (.t 0), none⟩, ⟨(some 13), .move (.t 6), none⟩, ⟨(some 14), .iaddr 1 (.t 12) (.t 13), none⟩, ⟨(some 15), .load (.t 14), none⟩, ⟨(some 16), .bin .gtr (.t 15) (.c (.int .i64 (.ofNat 2000))), none⟩, ⟨(some 17), .move (.t 16), none⟩, ⟨(some 18), .move (.t 1), (some (17, false))⟩, ⟨(some 19), .move (.t 6), (some (17, false))⟩, ⟨(some 20), .iaddr 1 (.t 18) (.t 19), (some (17, false))⟩, ⟨(some 21), .load (.t 20), (some (17, false))⟩, ⟨(some 22), .bin .gtr (.t 21) (.c (.int .i64 (.ofNat 2000))), (some (17, false))⟩, ⟨(some 23), .pick (.t 17) (.c (.bool true)) (.t 22), none⟩])
  (.cond (.t 23) (.seq (.reg [⟨(some 4), .move (.c (.int .i64 (.ofNat 2001))), none⟩])
  .ret) .skip))
  (.draw [(⟨(some 24), .move (.t 5), none⟩, 0), (⟨(some 25), .move (.t 0), none⟩, 0), (⟨(some 26), .move (.t 6), none⟩, 0), (⟨(some 27), .iaddr 1 (.t 25) (.t 26), none⟩, 0), (⟨(some 28), .load (.t 27), none⟩, 0), (⟨(some 29), .move (.t 1), none⟩, 0), (⟨(some 30), .move (.t 6), none⟩, 0), (⟨(some 31), .iaddr 1 (.t 29) (.t 30), none⟩, 0), (⟨(some 32), .load (.t 31), none⟩, 0), (⟨(some 33), .bin .add (.t 28) (.t 32), none⟩, 0), (⟨(some 34), .bin .mul (.t 24) (.t 33), none⟩, 0), (⟨(some 35), .most true (.t 34) (.c (.int .i64 (.ofNat 2001))), none⟩, 0), (⟨(some 5), .move (.t 35), none⟩, 0)]))))
  (.reg [⟨(some 36), .bin .add (.t 9) (.c (.int .i64 (.ofNat 1))), none⟩, ⟨(some 9), .move (.t 36), none⟩])))))))
  (.seq (.reg [⟨(some 37), .move (.t 5), none⟩, ⟨(some 4), .move (.t 37), none⟩])
  .ret))))⟩
theorem ok_counting_size : cFunc Go.Proofs.Try.prog Go.Proofs.Try.f67 = some c_counting_size := by kernel_rfl
def kprog : Nat → Option CFunc
  | 5 => some c_law37_CountingOrder
  | 8 => some c_made_New
  | 9 => some c_made_Tape_Next
  | 11 => some c_made_Tape_Word
  | 21 => some c_made_Tape_Counts
  | 22 => some c_counting_Match
  | 23 => some trueFn
  | 25 => some c_made_Mod
  | 26 => some c_counting_Validate
  | 44 => some c_word_Valid
  | 60 => some c_counting_next
  | 67 => some c_counting_size
  | _ => none
theorem p_law37_CountingOrder : kprog n_law37_CountingOrder = some c_law37_CountingOrder := rfl
theorem p_made_New : kprog n_made_New = some c_made_New := rfl
theorem p_made_Tape_Next : kprog n_made_Tape_Next = some c_made_Tape_Next := rfl
theorem p_made_Tape_Word : kprog n_made_Tape_Word = some c_made_Tape_Word := rfl
theorem p_made_Tape_Counts : kprog n_made_Tape_Counts = some c_made_Tape_Counts := rfl
theorem p_counting_Match : kprog n_counting_Match = some c_counting_Match := rfl
theorem p_law37_known : kprog n_law37_known = some trueFn := rfl
theorem p_made_Mod : kprog n_made_Mod = some c_made_Mod := rfl
theorem p_counting_Validate : kprog n_counting_Validate = some c_counting_Validate := rfl
theorem p_word_Valid : kprog n_word_Valid = some c_word_Valid := rfl
theorem p_counting_next : kprog n_counting_next = some c_counting_next := rfl
theorem p_counting_size : kprog n_counting_size = some c_counting_size := rfl
theorem kprog_ok (h23 : ∀ w, Calls Go.Proofs.Try.prog 23 #[] w fun e w' => e = .returned (.bool true) ∧ Go.RowKit.Below w.heap.size w w') : ProgOk Go.Proofs.Try.prog kprog := by
  intro f cf h
  unfold kprog at h
  split at h
  · cases h; exact .inl ⟨_, Go.Proofs.Try.func5, ok_law37_CountingOrder, by decide +kernel⟩
  · cases h; exact .inl ⟨_, Go.Proofs.Try.func8, ok_made_New, by decide +kernel⟩
  · cases h; exact .inl ⟨_, Go.Proofs.Try.func9, ok_made_Tape_Next, by decide +kernel⟩
  · cases h; exact .inl ⟨_, Go.Proofs.Try.func11, ok_made_Tape_Word, by decide +kernel⟩
  · cases h; exact .inl ⟨_, Go.Proofs.Try.func21, ok_made_Tape_Counts, by decide +kernel⟩
  · cases h; exact .inl ⟨_, Go.Proofs.Try.func22, ok_counting_Match, by decide +kernel⟩
  · cases h; exact .inr ⟨rfl, ⟨_, Go.Proofs.Try.func23, by decide +kernel, by decide +kernel⟩, h23⟩
  · cases h; exact .inl ⟨_, Go.Proofs.Try.func25, ok_made_Mod, by decide +kernel⟩
  · cases h; exact .inl ⟨_, Go.Proofs.Try.func26, ok_counting_Validate, by decide +kernel⟩
  · cases h; exact .inl ⟨_, Go.Proofs.Try.func44, ok_word_Valid, by decide +kernel⟩
  · cases h; exact .inl ⟨_, Go.Proofs.Try.func60, ok_counting_next, by decide +kernel⟩
  · cases h; exact .inl ⟨_, Go.Proofs.Try.func67, ok_counting_size, by decide +kernel⟩
  · cases h
theorem mixed : Go.Proofs.Try.prog.follows .mixedOrders = true := by kernel_rfl
end Go.EvK
end
