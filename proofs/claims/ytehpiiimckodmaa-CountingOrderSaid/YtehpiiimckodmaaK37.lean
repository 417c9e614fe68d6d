/- The example of chapter 37 is true: evaluated. -/
import Derived.Test.YtehpiiimckodmaaProg
import Derived.KernelRfl
import Derived.Test.YtehpiiimckodmaaEv4
set_option linter.unusedVariables false
set_option linter.unusedSimpArgs false
section
namespace Go.Ev.K37
open Go
/-- semigroup/counting.Match -/
def c22 : CFunc := ⟨37, [.tmp 4], (.seq (.reg [⟨(some 2), .box 53 (.t 0), none⟩, ⟨(some 4), .move (.c (.bool false)), none⟩])
  (.seq (.seq (.reg [⟨(some 7), .loadN 3 (.t 2), none⟩, ⟨(some 8), .call 26 [(.t 7)], none⟩, ⟨(some 9), .bin .neq (.t 8) (.c (.int .i64 (.ofNat 0))), none⟩, ⟨(some 10), .move (.t 9), none⟩, ⟨(some 11), .move (.t 1), (some (10, false))⟩, ⟨(some 12), .faddr 0 (.t 2), (some (10, false))⟩, ⟨(some 13), .load (.t 12), (some (10, false))⟩, ⟨(some 14), .lenSl (.t 13), (some (10, false))⟩, ⟨(some 15), .call 44 [(.t 11), (.t 14)], (some (10, false))⟩, ⟨(some 16), .not (.t 15), (some (10, false))⟩, ⟨(some 17), .pick (.t 10) (.c (.bool true)) (.t 16), none⟩])
  (.cond (.t 17) (.seq (.reg [⟨(some 4), .move (.c (.bool false)), none⟩])
  .ret) .skip))
  (.seq (.reg [⟨(some 5), .move (.c (.int .i64 (.ofNat 0))), none⟩])
  (.seq (.seq (.reg [⟨(some 6), .move (.c (.int .i64 (.ofNat 0))), none⟩])
  (.block 0 (.loop (.seq (.seq (.reg [⟨(some 18), .move (.t 6), none⟩, ⟨(some 19), .move (.t 1), none⟩, ⟨(some 20), .lenStr (.t 19), none⟩, ⟨(some 21), .bin .lss (.t 18) (.t 20), none⟩])
  (.cond (.t 21) .skip (.exit 0)))
  (.seq (.block 1 (.draw [(⟨(some 24), .loadN 3 (.t 2), none⟩, 0), (⟨(some 25), .move (.t 5), none⟩, 0), (⟨(some 26), .move (.t 1), none⟩, 0), (⟨(some 27), .move (.t 6), none⟩, 0), (⟨(some 28), .idxStr (.t 26) (.t 27), none⟩, 0), (⟨(some 29), .bin .sub (.t 28) (.c (.int .u8 (.ofNat 97))), none⟩, 0), (⟨(some 30), .conv .i64 (.t 29), none⟩, 0), (⟨(some 31), .call 60 [(.t 24), (.t 25), (.t 30)], none⟩, 1), (⟨(some 5), .move (.t 31), none⟩, 1)]))
  (.reg [⟨(some 22), .move (.t 6), none⟩, ⟨(some 23), .bin .add (.t 22) (.c (.int .i64 (.ofNat 1))), none⟩, ⟨(some 6), .move (.t 23), none⟩]))))))
  (.seq (.reg [⟨(some 32), .faddr 2 (.t 2), none⟩, ⟨(some 33), .load (.t 32), none⟩, ⟨(some 34), .move (.t 5), none⟩, ⟨(some 35), .iaddr 1 (.t 33) (.t 34), none⟩, ⟨(some 36), .load (.t 35), none⟩, ⟨(some 4), .move (.t 36), none⟩])
  .ret)))))⟩
theorem c22_ok : cFunc Go.Proofs.Try.prog Go.Proofs.Try.f22 = some c22 := by kernel_rfl
/-- semigroup/semigrouplaw37.known -/
def c23 : CFunc := ⟨44, [.tmp 0], (.seq (.reg [⟨(some 0), .move (.c (.bool false)), none⟩])
  (.seq (.reg [⟨(some 6), .buildSlice 4 1 4 [(.bool false), (.bool false), (.bool false), (.bool false)] [(0, (.c (.bool false))), (1, (.c (.bool false))), (2, (.c (.bool false))), (3, (.c (.bool true)))], none⟩, ⟨(some 7), .buildSlice 3 1 1 [(.int .i64 (.ofNat 0))] [(0, (.c (.int .i64 (.ofNat 1))))], none⟩, ⟨(some 8), .buildSlice 3 1 1 [(.int .i64 (.ofNat 0))] [(0, (.c (.int .i64 (.ofNat 2))))], none⟩, ⟨(some 9), .buildSlice 3 1 1 [(.int .i64 (.ofNat 0))] [(0, (.c (.int .i64 (.ofNat 3))))], none⟩, ⟨(some 10), .buildSlice 3 1 1 [(.int .i64 (.ofNat 0))] [(0, (.c (.int .i64 (.ofNat 3))))], none⟩, ⟨(some 11), .buildSlice 22 1 4 [(.slice none 0 0), (.slice none 0 0), (.slice none 0 0), (.slice none 0 0)] [(0, (.t 7)), (1, (.t 8)), (2, (.t 9)), (3, (.t 10))], none⟩, ⟨(some 12), .build [(.int .i64 (.ofNat 0)), (.int .i64 (.ofNat 0)), (.slice none 0 0), (.slice none 0 0)] [(0, 1, (.c (.int .i64 (.ofNat 1)))), (2, 1, (.t 6)), (3, 1, (.t 11))], none⟩, ⟨(some 13), .call 61 [(.t 12)], none⟩, ⟨(some 5), .move (.t 13), none⟩, ⟨(some 14), .extract 0 (.t 5), none⟩, ⟨(some 15), .extract 1 (.t 5), none⟩, ⟨(some 1), .alloc 101 [(.int .i64 (.ofNat 0)), (.slice none 0 0), (.slice none 0 0), (.slice none 0 0), (.slice none 0 0), (.slice none 0 0)], none⟩, ⟨none, .store 6 (.t 1) (.t 14), none⟩, ⟨(some 2), .move (.t 15), none⟩])
  (.seq (.reg [⟨(some 17), .loadN 6 (.t 1), none⟩, ⟨(some 18), .call 62 [(.t 17)], none⟩, ⟨(some 16), .move (.t 18), none⟩, ⟨(some 19), .extract 0 (.t 16), none⟩, ⟨(some 20), .extract 1 (.t 16), none⟩, ⟨(some 3), .alloc 53 [(.slice none 0 0), (.slice none 0 0), (.slice none 0 0)], none⟩, ⟨none, .store 3 (.t 3) (.t 19), none⟩, ⟨(some 4), .move (.t 20), none⟩])
  (.seq (.reg [⟨(some 21), .move (.t 2), none⟩, ⟨(some 22), .bin .eql (.t 21) (.c (.int .i64 (.ofNat 0))), none⟩, ⟨(some 23), .move (.t 22), none⟩, ⟨(some 24), .move (.t 4), (some (23, true))⟩, ⟨(some 25), .bin .eql (.t 24) (.c (.int .i64 (.ofNat 0))), (some (23, true))⟩, ⟨(some 26), .pick (.t 23) (.t 25) (.c (.bool false)), none⟩, ⟨(some 27), .move (.t 26), none⟩, ⟨(some 28), .loadN 3 (.t 3), (some (27, true))⟩, ⟨(some 29), .buildSlice 3 1 1 [(.int .i64 (.ofNat 0))] [(0, (.c (.int .i64 (.ofNat 3))))], (some (27, true))⟩, ⟨(some 30), .buildSlice 3 1 1 [(.int .i64 (.ofNat 0))] [(0, (.c (.int .i64 (.ofNat 1))))], (some (27, true))⟩, ⟨(some 31), .buildSlice 4 1 4 [(.bool false), (.bool false), (.bool false), (.bool false)] [(0, (.c (.bool false))), (1, (.c (.bool false))), (2, (.c (.bool false))), (3, (.c (.bool true)))], (some (27, true))⟩, ⟨(some 32), .build [(.slice none 0 0), (.slice none 0 0), (.slice none 0 0)] [(0, 1, (.t 29)), (1, 1, (.t 30)), (2, 1, (.t 31))], (some (27, true))⟩, ⟨(some 33), .call 63 [(.t 28), (.t 32)], (some (27, true))⟩, ⟨(some 34), .pick (.t 27) (.t 33) (.c (.bool false)), none⟩, ⟨(some 35), .move (.t 34), none⟩, ⟨(some 36), .loadN 3 (.t 3), (some (35, true))⟩, ⟨(some 37), .call 22 [(.t 36), (.c (.string ⟨⟨[97, 97, 97, 97]⟩⟩))], (some (35, true))⟩, ⟨(some 38), .pick (.t 35) (.t 37) (.c (.bool false)), none⟩, ⟨(some 39), .move (.t 38), none⟩, ⟨(some 40), .loadN 3 (.t 3), (some (39, true))⟩, ⟨(some 41), .call 22 [(.t 40), (.c (.string ⟨⟨[97, 97]⟩⟩))], (some (39, true))⟩, ⟨(some 42), .not (.t 41), (some (39, true))⟩, ⟨(some 43), .pick (.t 39) (.t 42) (.c (.bool false)), none⟩, ⟨(some 0), .move (.t 43), none⟩])
  .ret))))⟩
theorem c23_ok : cFunc Go.Proofs.Try.prog Go.Proofs.Try.f23 = some c23 := by kernel_rfl
/-- semigroup/counting.Validate -/
def c26 : CFunc := ⟨55, [.tmp 2], (.seq (.reg [⟨(some 1), .box 53 (.t 0), none⟩, ⟨(some 2), .move (.c (.int .i64 (.ofNat 0))), none⟩])
  (.seq (.seq (.reg [⟨(some 5), .faddr 0 (.t 1), none⟩, ⟨(some 6), .load (.t 5), none⟩, ⟨(some 7), .lenSl (.t 6), none⟩, ⟨(some 8), .bin .lss (.t 7) (.c (.int .i64 (.ofNat 1))), none⟩, ⟨(some 9), .move (.t 8), none⟩, ⟨(some 10), .faddr 0 (.t 1), (some (9, false))⟩, ⟨(some 11), .load (.t 10), (some (9, false))⟩, ⟨(some 12), .lenSl (.t 11), (some (9, false))⟩, ⟨(some 13), .bin .gtr (.t 12) (.c (.int .i64 (.ofNat 6))), (some (9, false))⟩, ⟨(some 14), .pick (.t 9) (.c (.bool true)) (.t 13), none⟩])
  (.cond (.t 14) (.seq (.reg [⟨(some 2), .move (.c (.int .i64 (.ofNat 1))), none⟩])
  .ret) .skip))
  (.seq (.seq (.reg [⟨(some 15), .faddr 1 (.t 1), none⟩, ⟨(some 16), .load (.t 15), none⟩, ⟨(some 17), .lenSl (.t 16), none⟩, ⟨(some 18), .faddr 0 (.t 1), none⟩, ⟨(some 19), .load (.t 18), none⟩, ⟨(some 20), .lenSl (.t 19), none⟩, ⟨(some 21), .bin .neq (.t 17) (.t 20), none⟩])
  (.cond (.t 21) (.seq (.reg [⟨(some 2), .move (.c (.int .i64 (.ofNat 22))), none⟩])
  .ret) .skip))
  (.seq (.seq (.reg [⟨(some 22), .faddr 0 (.t 1), none⟩, ⟨(some 23), .load (.t 22), none⟩, ⟨(some 24), .lenSl (.t 23), none⟩, ⟨(some 25), .move (.c (.int .i64 (.ofNat 0))), none⟩])
  (.block 0 (.loop (.seq (.reg [⟨(some 26), .bin .lss (.t 25) (.t 24), none⟩])
  (.seq (.cond (.t 26) .skip (.exit 0))
  (.seq (.block 1 (.seq (.reg [⟨(some 27), .move (.t 25), none⟩, ⟨(some 3), .move (.t 27), none⟩])
  (.seq (.reg [⟨(some 28), .faddr 0 (.t 1), none⟩, ⟨(some 29), .load (.t 28), none⟩, ⟨(some 30), .move (.t 3), none⟩, ⟨(some 31), .iaddr 1 (.t 29) (.t 30), none⟩, ⟨(some 32), .load (.t 31), none⟩, ⟨(some 33), .bin .lss (.t 32) (.c (.int .i64 (.ofNat 0))), none⟩, ⟨(some 34), .move (.t 33), none⟩, ⟨(some 35), .faddr 1 (.t 1), (some (34, false))⟩, ⟨(some 36), .load (.t 35), (some (34, false))⟩, ⟨(some 37), .move (.t 3), (some (34, false))⟩, ⟨(some 38), .iaddr 1 (.t 36) (.t 37), (some (34, false))⟩, ⟨(some 39), .load (.t 38), (some (34, false))⟩, ⟨(some 40), .bin .lss (.t 39) (.c (.int .i64 (.ofNat 1))), (some (34, false))⟩, ⟨(some 41), .pick (.t 34) (.c (.bool true)) (.t 40), none⟩])
  (.cond (.t 41) (.seq (.reg [⟨(some 2), .move (.c (.int .i64 (.ofNat 22))), none⟩])
  .ret) .skip))))
  (.reg [⟨(some 42), .bin .add (.t 25) (.c (.int .i64 (.ofNat 1))), none⟩, ⟨(some 25), .move (.t 42), none⟩])))))))
  (.seq (.reg [⟨(some 43), .faddr 0 (.t 1), none⟩, ⟨(some 44), .load (.t 43), none⟩, ⟨(some 45), .faddr 1 (.t 1), none⟩, ⟨(some 46), .load (.t 45), none⟩, ⟨(some 47), .call 67 [(.t 44), (.t 46)], none⟩, ⟨(some 4), .move (.t 47), none⟩])
  (.seq (.seq (.reg [⟨(some 48), .move (.t 4), none⟩, ⟨(some 49), .bin .gtr (.t 48) (.c (.int .i64 (.ofNat 2000))), none⟩])
  (.cond (.t 49) (.seq (.reg [⟨(some 2), .move (.c (.int .i64 (.ofNat 3))), none⟩])
  .ret) .skip))
  (.seq (.seq (.reg [⟨(some 50), .faddr 2 (.t 1), none⟩, ⟨(some 51), .load (.t 50), none⟩, ⟨(some 52), .lenSl (.t 51), none⟩, ⟨(some 53), .move (.t 4), none⟩, ⟨(some 54), .bin .neq (.t 52) (.t 53), none⟩])
  (.cond (.t 54) (.seq (.reg [⟨(some 2), .move (.c (.int .i64 (.ofNat 22))), none⟩])
  .ret) .skip))
  (.seq (.reg [⟨(some 2), .move (.c (.int .i64 (.ofNat 0))), none⟩])
  .ret))))))))⟩
theorem c26_ok : cFunc Go.Proofs.Try.prog Go.Proofs.Try.f26 = some c26 := by kernel_rfl
/-- semigroup/word.Valid -/
def c44 : CFunc := ⟨36, [.tmp 4], (.seq (.reg [⟨(some 4), .move (.c (.bool false)), none⟩])
  (.seq (.seq (.reg [⟨(some 6), .move (.t 1), none⟩, ⟨(some 7), .bin .lss (.t 6) (.c (.int .i64 (.ofNat 1))), none⟩, ⟨(some 8), .move (.t 7), none⟩, ⟨(some 9), .move (.t 1), (some (8, false))⟩, ⟨(some 10), .bin .gtr (.t 9) (.c (.int .i64 (.ofNat 6))), (some (8, false))⟩, ⟨(some 11), .pick (.t 8) (.c (.bool true)) (.t 10), none⟩, ⟨(some 12), .move (.t 11), none⟩, ⟨(some 13), .move (.t 0), (some (12, false))⟩, ⟨(some 14), .lenStr (.t 13), (some (12, false))⟩, ⟨(some 15), .bin .gtr (.t 14) (.c (.int .i64 (.ofNat 2048))), (some (12, false))⟩, ⟨(some 16), .pick (.t 12) (.c (.bool true)) (.t 15), none⟩])
  (.cond (.t 16) (.seq (.reg [⟨(some 4), .move (.c (.bool false)), none⟩])
  .ret) .skip))
  (.seq (.seq (.reg [⟨(some 5), .move (.c (.int .i64 (.ofNat 0))), none⟩])
  (.block 0 (.loop (.seq (.seq (.reg [⟨(some 17), .move (.t 5), none⟩, ⟨(some 18), .move (.t 0), none⟩, ⟨(some 19), .lenStr (.t 18), none⟩, ⟨(some 20), .bin .lss (.t 17) (.t 19), none⟩])
  (.cond (.t 20) .skip (.exit 0)))
  (.seq (.block 1 (.seq (.reg [⟨(some 23), .move (.t 0), none⟩, ⟨(some 24), .move (.t 5), none⟩, ⟨(some 25), .idxStr (.t 23) (.t 24), none⟩, ⟨(some 26), .bin .lss (.t 25) (.c (.int .u8 (.ofNat 97))), none⟩, ⟨(some 27), .move (.t 26), none⟩, ⟨(some 28), .move (.t 0), (some (27, false))⟩, ⟨(some 29), .move (.t 5), (some (27, false))⟩, ⟨(some 30), .idxStr (.t 28) (.t 29), (some (27, false))⟩, ⟨(some 31), .bin .sub (.t 30) (.c (.int .u8 (.ofNat 97))), (some (27, false))⟩, ⟨(some 32), .conv .i64 (.t 31), (some (27, false))⟩, ⟨(some 33), .move (.t 1), (some (27, false))⟩, ⟨(some 34), .bin .geq (.t 32) (.t 33), (some (27, false))⟩, ⟨(some 35), .pick (.t 27) (.c (.bool true)) (.t 34), none⟩])
  (.cond (.t 35) (.seq (.reg [⟨(some 4), .move (.c (.bool false)), none⟩])
  .ret) .skip)))
  (.reg [⟨(some 21), .move (.t 5), none⟩, ⟨(some 22), .bin .add (.t 21) (.c (.int .i64 (.ofNat 1))), none⟩, ⟨(some 5), .move (.t 22), none⟩]))))))
  (.seq (.reg [⟨(some 4), .move (.c (.bool true)), none⟩])
  .ret))))⟩
theorem c44_ok : cFunc Go.Proofs.Try.prog Go.Proofs.Try.f44 = some c44 := by kernel_rfl
/-- semigroup/semigroupref01.MayLetters -/
def c49 : CFunc := ⟨9, [.tmp 2], (.seq (.reg [⟨(some 2), .move (.c (.bool false)), none⟩])
  (.seq (.reg [⟨(some 3), .move (.t 0), none⟩, ⟨(some 4), .bin .geq (.t 3) (.c (.int .i64 (.ofNat 1))), none⟩, ⟨(some 5), .move (.t 4), none⟩, ⟨(some 6), .move (.t 0), (some (5, true))⟩, ⟨(some 7), .bin .leq (.t 6) (.c (.int .i64 (.ofNat 6))), (some (5, true))⟩, ⟨(some 8), .pick (.t 5) (.t 7) (.c (.bool false)), none⟩, ⟨(some 2), .move (.t 8), none⟩])
  .ret))⟩
theorem c49_ok : cFunc Go.Proofs.Try.prog Go.Proofs.Try.f49 = some c49 := by kernel_rfl
/-- semigroup/counting.next -/
def c60 : CFunc := ⟨75, [.tmp 6], (.seq (.reg [⟨(some 3), .box 53 (.t 0), none⟩, ⟨(some 6), .move (.c (.int .i64 (.ofNat 0))), none⟩])
  (.seq (.reg [⟨(some 7), .move (.c (.int .i64 (.ofNat 1))), none⟩])
  (.seq (.seq (.reg [⟨(some 10), .faddr 0 (.t 3), none⟩, ⟨(some 11), .load (.t 10), none⟩, ⟨(some 12), .lenSl (.t 11), none⟩, ⟨(some 13), .bin .sub (.t 12) (.c (.int .i64 (.ofNat 1))), none⟩, ⟨(some 8), .move (.t 13), none⟩])
  (.block 0 (.loop (.seq (.seq (.reg [⟨(some 14), .move (.t 8), none⟩, ⟨(some 15), .move (.t 2), none⟩, ⟨(some 16), .bin .gtr (.t 14) (.t 15), none⟩])
  (.cond (.t 16) .skip (.exit 0)))
  (.seq (.block 1 (.draw [(⟨(some 19), .move (.t 7), none⟩, 0), (⟨(some 20), .faddr 0 (.t 3), none⟩, 0), (⟨(some 21), .load (.t 20), none⟩, 0), (⟨(some 22), .move (.t 8), none⟩, 0), (⟨(some 23), .iaddr 1 (.t 21) (.t 22), none⟩, 0), (⟨(some 24), .load (.t 23), none⟩, 0), (⟨(some 25), .faddr 1 (.t 3), none⟩, 0), (⟨(some 26), .load (.t 25), none⟩, 0), (⟨(some 27), .move (.t 8), none⟩, 0), (⟨(some 28), .iaddr 1 (.t 26) (.t 27), none⟩, 0), (⟨(some 29), .load (.t 28), none⟩, 0), (⟨(some 30), .bin .add (.t 24) (.t 29), none⟩, 0), (⟨(some 31), .bin .mul (.t 19) (.t 30), none⟩, 0), (⟨(some 7), .move (.t 31), none⟩, 0)]))
  (.reg [⟨(some 17), .move (.t 8), none⟩, ⟨(some 18), .bin .sub (.t 17) (.c (.int .i64 (.ofNat 1))), none⟩, ⟨(some 8), .move (.t 18), none⟩]))))))
  (.seq (.draw [(⟨(some 32), .move (.t 1), none⟩, 0), (⟨(some 33), .move (.t 7), none⟩, 0), (⟨(some 34), .bin .quo (.t 32) (.t 33), none⟩, 0), (⟨(some 35), .faddr 0 (.t 3), none⟩, 0), (⟨(some 36), .load (.t 35), none⟩, 0), (⟨(some 37), .move (.t 2), none⟩, 0), (⟨(some 38), .iaddr 1 (.t 36) (.t 37), none⟩, 0), (⟨(some 39), .load (.t 38), none⟩, 0), (⟨(some 40), .faddr 1 (.t 3), none⟩, 0), (⟨(some 41), .load (.t 40), none⟩, 0), (⟨(some 42), .move (.t 2), none⟩, 0), (⟨(some 43), .iaddr 1 (.t 41) (.t 42), none⟩, 0), (⟨(some 44), .load (.t 43), none⟩, 0), (⟨(some 45), .bin .add (.t 39) (.t 44), none⟩, 0), (⟨(some 46), .bin .rem (.t 34) (.t 45), none⟩, 0), (⟨(some 9), .move (.t 46), none⟩, 0)])
  (.seq (.seq (.draw [(⟨(some 47), .move (.t 9), none⟩, 0), (⟨(some 48), .bin .add (.t 47) (.c (.int .i64 (.ofNat 1))), none⟩, 0), (⟨(some 49), .faddr 0 (.t 3), none⟩, 0), (⟨(some 50), .load (.t 49), none⟩, 0), (⟨(some 51), .move (.t 2), none⟩, 0), (⟨(some 52), .iaddr 1 (.t 50) (.t 51), none⟩, 0), (⟨(some 53), .load (.t 52), none⟩, 0), (⟨(some 54), .faddr 1 (.t 3), none⟩, 0), (⟨(some 55), .load (.t 54), none⟩, 0), (⟨(some 56), .move (.t 2), none⟩, 0), (⟨(some 57), .iaddr 1 (.t 55) (.t 56), none⟩, 0), (⟨(some 58), .load (.t 57), none⟩, 0), (⟨(some 59), .bin .add (.t 53) (.t 58), none⟩, 0), (⟨(some 60), .bin .eql (.t 48) (.t 59), none⟩, 0)])
  (.cond (.t 60) (.seq (.reg [⟨(some 61), .move (.t 1), none⟩, ⟨(some 62), .move (.t 9), none⟩, ⟨(some 63), .faddr 0 (.t 3), none⟩, ⟨(some 64), .load (.t 63), none⟩, ⟨(some 65), .move (.t 2), none⟩, ⟨(some 66), .iaddr 1 (.t 64) (.t 65), none⟩, ⟨(some 67), .load (.t 66), none⟩, ⟨(some 68), .bin .sub (.t 62) (.t 67), none⟩, ⟨(some 69), .move (.t 7), none⟩, ⟨(some 70), .bin .mul (.t 68) (.t 69), none⟩, ⟨(some 71), .bin .sub (.t 61) (.t 70), none⟩, ⟨(some 6), .move (.t 71), none⟩])
  .ret) .skip))
  (.seq (.reg [⟨(some 72), .move (.t 1), none⟩, ⟨(some 73), .move (.t 7), none⟩, ⟨(some 74), .bin .add (.t 72) (.t 73), none⟩, ⟨(some 6), .move (.t 74), none⟩])
  .ret))))))⟩
theorem c60_ok : cFunc Go.Proofs.Try.prog Go.Proofs.Try.f60 = some c60 := by kernel_rfl
/-- semigroup/semigroupref21.Of -/
def c61 : CFunc := ⟨28, [.cells 6 2, .tmp 3], (.seq (.reg [⟨(some 1), .box 32 (.t 0), none⟩, ⟨(some 2), .alloc 101 [(.int .i64 (.ofNat 0)), (.slice none 0 0), (.slice none 0 0), (.slice none 0 0), (.slice none 0 0), (.slice none 0 0)], none⟩, ⟨(some 3), .move (.c (.int .i64 (.ofNat 0))), none⟩])
  (.seq (.seq (.reg [⟨(some 6), .loadN 4 (.t 1), none⟩, ⟨(some 7), .call 91 [(.t 6)], none⟩, ⟨(some 4), .move (.t 7), none⟩])
  (.seq (.reg [⟨(some 8), .move (.t 4), none⟩, ⟨(some 9), .bin .neq (.t 8) (.c (.int .i64 (.ofNat 0))), none⟩])
  (.cond (.t 9) (.seq (.reg [⟨(some 10), .build [(.int .i64 (.ofNat 0)), (.slice none 0 0), (.slice none 0 0), (.slice none 0 0), (.slice none 0 0), (.slice none 0 0)] [], none⟩, ⟨(some 11), .move (.t 4), none⟩, ⟨none, .store 6 (.t 2) (.t 10), none⟩, ⟨(some 3), .move (.t 11), none⟩])
  .ret) .skip)))
  (.seq (.reg [⟨(some 12), .loadN 4 (.t 1), none⟩, ⟨(some 13), .call 92 [(.t 12)], none⟩, ⟨(some 5), .alloc 32 [(.int .i64 (.ofNat 0)), (.int .i64 (.ofNat 0)), (.slice none 0 0), (.slice none 0 0)], none⟩, ⟨none, .store 4 (.t 5) (.t 13), none⟩])
  (.seq (.seq (.reg [⟨(some 14), .faddr 2 (.t 5), none⟩, ⟨(some 15), .load (.t 14), none⟩, ⟨(some 16), .lenSl (.t 15), none⟩, ⟨(some 17), .bin .gtr (.t 16) (.c (.int .i64 (.ofNat 32))), none⟩])
  (.cond (.t 17) (.seq (.reg [⟨(some 18), .build [(.int .i64 (.ofNat 0)), (.slice none 0 0), (.slice none 0 0), (.slice none 0 0), (.slice none 0 0), (.slice none 0 0)] [], none⟩, ⟨none, .store 6 (.t 2) (.t 18), none⟩, ⟨(some 3), .move (.c (.int .i64 (.ofNat 3))), none⟩])
  .ret) .skip))
  (.seq (.draw [(⟨(some 19), .loadN 4 (.t 5), none⟩, 0), (⟨(some 21), .faddr 1 (.t 5), none⟩, 1), (⟨(some 22), .load (.t 21), none⟩, 1), (⟨(some 23), .faddr 2 (.t 5), none⟩, 1), (⟨(some 24), .load (.t 23), none⟩, 1), (⟨(some 20), .call 94 [(.t 19)], none⟩, 1), (⟨(some 25), .call 93 [(.t 20), (.t 22), (.t 24)], none⟩, 2), (⟨(some 26), .extract 0 (.t 25), none⟩, 2), (⟨(some 27), .extract 1 (.t 25), none⟩, 2), (⟨none, .store 6 (.t 2) (.t 26), none⟩, 3), (⟨(some 3), .move (.t 27), none⟩, 3)])
  .ret)))))⟩
theorem c61_ok : cFunc Go.Proofs.Try.prog Go.Proofs.Try.f61 = some c61 := by kernel_rfl
/-- semigroup/counting.Of -/
def c62 : CFunc := ⟨148, [.cells 3 2, .tmp 3], (.seq (.reg [⟨(some 1), .box 101 (.t 0), none⟩, ⟨(some 2), .alloc 53 [(.slice none 0 0), (.slice none 0 0), (.slice none 0 0)], none⟩, ⟨(some 3), .move (.c (.int .i64 (.ofNat 0))), none⟩])
  (.seq (.seq (.reg [⟨(some 19), .loadN 6 (.t 1), none⟩, ⟨(some 20), .call 95 [(.t 19)], none⟩, ⟨(some 4), .move (.t 20), none⟩])
  (.seq (.reg [⟨(some 21), .move (.t 4), none⟩, ⟨(some 22), .bin .neq (.t 21) (.c (.int .i64 (.ofNat 0))), none⟩])
  (.cond (.t 22) (.seq (.reg [⟨(some 23), .build [(.slice none 0 0), (.slice none 0 0), (.slice none 0 0)] [], none⟩, ⟨(some 24), .move (.t 4), none⟩, ⟨none, .store 3 (.t 2) (.t 23), none⟩, ⟨(some 3), .move (.t 24), none⟩])
  .ret) .skip)))
  (.seq (.seq (.reg [⟨(some 25), .faddr 1 (.t 1), none⟩, ⟨(some 26), .load (.t 25), none⟩, ⟨(some 27), .call 96 [(.t 26)], none⟩, ⟨(some 28), .not (.t 27), none⟩])
  (.cond (.t 28) (.seq (.reg [⟨(some 29), .build [(.slice none 0 0), (.slice none 0 0), (.slice none 0 0)] [], none⟩, ⟨none, .store 3 (.t 2) (.t 29), none⟩, ⟨(some 3), .move (.c (.int .i64 (.ofNat 20))), none⟩])
  .ret) .skip))
  (.seq (.reg [⟨(some 5), .alloc 53 [(.slice none 0 0), (.slice none 0 0), (.slice none 0 0)], none⟩])
  (.seq (.seq (.reg [⟨(some 30), .faddr 3 (.t 1), none⟩, ⟨(some 31), .load (.t 30), none⟩, ⟨(some 32), .lenSl (.t 31), none⟩, ⟨(some 33), .move (.c (.int .i64 (.ofNat 0))), none⟩])
  (.block 0 (.loop (.seq (.reg [⟨(some 34), .bin .lss (.t 33) (.t 32), none⟩])
  (.seq (.cond (.t 34) .skip (.exit 0))
  (.seq (.block 1 (.seq (.reg [⟨(some 35), .iaddr 1 (.t 31) (.t 33), none⟩, ⟨(some 36), .load (.t 35), none⟩, ⟨(some 7), .move (.t 36), none⟩])
  (.seq (.reg [⟨(some 37), .mkMap, none⟩, ⟨(some 8), .move (.t 37), none⟩])
  (.seq (.reg [⟨(some 9), .move (.c (.int .i64 (.ofNat 0))), none⟩, ⟨(some 10), .move (.c (.int .i64 (.ofNat 0))), none⟩])
  (.block 2 (.loop (.block 3 (.seq (.reg [⟨(some 39), .move (.t 8), none⟩, ⟨(some 40), .move (.t 9), none⟩, ⟨(some 41), .lookup (.one .int) (.int .i64 (.ofNat 0)) true (.t 39) (.t 40), none⟩, ⟨(some 38), .move (.t 41), none⟩, ⟨(some 42), .extract 0 (.t 38), none⟩, ⟨(some 43), .extract 1 (.t 38), none⟩, ⟨(some 11), .move (.t 42), none⟩, ⟨(some 12), .move (.t 43), none⟩])
  (.seq (.seq (.reg [⟨(some 44), .move (.t 12), none⟩])
  (.cond (.t 44) (.seq (.draw [(⟨(some 45), .faddr 0 (.t 5), none⟩, 0), (⟨(some 46), .load (.t 45), none⟩, 0), (⟨(some 47), .move (.t 11), none⟩, 0), (⟨(some 48), .buildSlice 3 1 1 [(.int .i64 (.ofNat 0))] [(0, (.t 47))], none⟩, 0), (⟨(some 50), .faddr 1 (.t 5), none⟩, 1), (⟨(some 51), .load (.t 50), none⟩, 1), (⟨(some 52), .move (.t 10), none⟩, 1), (⟨(some 53), .move (.t 11), none⟩, 1), (⟨(some 54), .bin .sub (.t 52) (.t 53), none⟩, 1), (⟨(some 55), .buildSlice 3 1 1 [(.int .i64 (.ofNat 0))] [(0, (.t 54))], none⟩, 1), (⟨(some 49), .append 3 1 8 (.t 46) (.t 48), none⟩, 1), (⟨(some 57), .faddr 0 (.t 5), none⟩, 2), (⟨(some 56), .append 3 1 8 (.t 51) (.t 55), none⟩, 2), (⟨none, .store 1 (.t 57) (.t 49), none⟩, 3), (⟨(some 58), .faddr 1 (.t 5), none⟩, 3), (⟨none, .store 1 (.t 58) (.t 56), none⟩, 4)])
  (.exit 2)) .skip))
  (.seq (.reg [⟨(some 59), .move (.t 8), none⟩, ⟨(some 60), .move (.t 9), none⟩, ⟨(some 61), .move (.t 10), none⟩, ⟨none, .mapSet (.one .int) (.t 59) (.t 60) (.t 61), none⟩])
  (.reg [⟨(some 62), .faddr 1 (.t 1), none⟩, ⟨(some 63), .load (.t 62), none⟩, ⟨(some 64), .move (.t 9), none⟩, ⟨(some 65), .iaddr 1 (.t 63) (.t 64), none⟩, ⟨(some 66), .load (.t 65), none⟩, ⟨(some 67), .move (.t 7), none⟩, ⟨(some 68), .iaddr 1 (.t 66) (.t 67), none⟩, ⟨(some 69), .load (.t 68), none⟩, ⟨(some 70), .move (.t 10), none⟩, ⟨(some 71), .bin .add (.t 70) (.c (.int .i64 (.ofNat 1))), none⟩, ⟨(some 9), .move (.t 69), none⟩, ⟨(some 10), .move (.t 71), none⟩])))))))))))
  (.reg [⟨(some 72), .bin .add (.t 33) (.c (.int .i64 (.ofNat 1))), none⟩, ⟨(some 33), .move (.t 72), none⟩])))))))
  (.seq (.reg [⟨(some 73), .faddr 0 (.t 5), none⟩, ⟨(some 74), .load (.t 73), none⟩, ⟨(some 75), .faddr 1 (.t 5), none⟩, ⟨(some 76), .load (.t 75), none⟩, ⟨(some 77), .call 67 [(.t 74), (.t 76)], none⟩, ⟨(some 13), .move (.t 77), none⟩])
  (.seq (.seq (.reg [⟨(some 78), .move (.t 13), none⟩, ⟨(some 79), .bin .gtr (.t 78) (.c (.int .i64 (.ofNat 2000))), none⟩])
  (.cond (.t 79) (.seq (.reg [⟨(some 80), .build [(.slice none 0 0), (.slice none 0 0), (.slice none 0 0)] [], none⟩, ⟨none, .store 3 (.t 2) (.t 80), none⟩, ⟨(some 3), .move (.c (.int .i64 (.ofNat 3))), none⟩])
  .ret) .skip))
  (.seq (.seq (.reg [⟨(some 14), .move (.c (.int .i64 (.ofNat 0))), none⟩])
  (.block 4 (.loop (.seq (.seq (.reg [⟨(some 81), .move (.t 14), none⟩, ⟨(some 82), .move (.t 13), none⟩, ⟨(some 83), .bin .lss (.t 81) (.t 82), none⟩])
  (.cond (.t 83) .skip (.exit 4)))
  (.seq (.block 5 (.seq (.reg [⟨(some 86), .move (.t 14), none⟩, ⟨(some 15), .move (.c (.int .i64 (.ofNat 0))), none⟩, ⟨(some 16), .move (.t 86), none⟩])
  (.seq (.seq (.reg [⟨(some 87), .faddr 0 (.t 5), none⟩, ⟨(some 88), .load (.t 87), none⟩, ⟨(some 89), .lenSl (.t 88), none⟩, ⟨(some 90), .bin .sub (.t 89) (.c (.int .i64 (.ofNat 1))), none⟩, ⟨(some 17), .move (.t 90), none⟩])
  (.block 6 (.loop (.seq (.seq (.reg [⟨(some 91), .move (.t 17), none⟩, ⟨(some 92), .bin .geq (.t 91) (.c (.int .i64 (.ofNat 0))), none⟩])
  (.cond (.t 92) .skip (.exit 6)))
  (.seq (.block 7 (.seq (.draw [(⟨(some 95), .move (.t 16), none⟩, 0), (⟨(some 96), .faddr 0 (.t 5), none⟩, 0), (⟨(some 97), .load (.t 96), none⟩, 0), (⟨(some 98), .move (.t 17), none⟩, 0), (⟨(some 99), .iaddr 1 (.t 97) (.t 98), none⟩, 0), (⟨(some 100), .load (.t 99), none⟩, 0), (⟨(some 101), .faddr 1 (.t 5), none⟩, 0), (⟨(some 102), .load (.t 101), none⟩, 0), (⟨(some 103), .move (.t 17), none⟩, 0), (⟨(some 104), .iaddr 1 (.t 102) (.t 103), none⟩, 0), (⟨(some 105), .load (.t 104), none⟩, 0), (⟨(some 106), .bin .add (.t 100) (.t 105), none⟩, 0), (⟨(some 107), .bin .rem (.t 95) (.t 106), none⟩, 0), (⟨(some 18), .move (.t 107), none⟩, 0)])
  (.seq (.draw [(⟨(some 108), .move (.t 16), none⟩, 0), (⟨(some 109), .faddr 0 (.t 5), none⟩, 0), (⟨(some 110), .load (.t 109), none⟩, 0), (⟨(some 111), .move (.t 17), none⟩, 0), (⟨(some 112), .iaddr 1 (.t 110) (.t 111), none⟩, 0), (⟨(some 113), .load (.t 112), none⟩, 0), (⟨(some 114), .faddr 1 (.t 5), none⟩, 0), (⟨(some 115), .load (.t 114), none⟩, 0), (⟨(some 116), .move (.t 17), none⟩, 0), (⟨(some 117), .iaddr 1 (.t 115) (.t 116), none⟩, 0), (⟨(some 118), .load (.t 117), none⟩, 0), (⟨(some 119), .bin .add (.t 113) (.t 118), none⟩, 0), (⟨(some 120), .bin .quo (.t 108) (.t 119), none⟩, 0), (⟨(some 16), .move (.t 120), none⟩, 0)])
  (.block 8 (.loop (.seq (.seq (.reg [⟨(some 121), .move (.t 18), none⟩, ⟨(some 122), .bin .gtr (.t 121) (.c (.int .i64 (.ofNat 0))), none⟩])
  (.cond (.t 122) .skip (.exit 8)))
  (.seq (.block 9 (.draw [(⟨(some 125), .faddr 1 (.t 1), none⟩, 0), (⟨(some 126), .load (.t 125), none⟩, 0), (⟨(some 127), .move (.t 15), none⟩, 0), (⟨(some 128), .iaddr 1 (.t 126) (.t 127), none⟩, 0), (⟨(some 129), .load (.t 128), none⟩, 0), (⟨(some 130), .faddr 3 (.t 1), none⟩, 0), (⟨(some 131), .load (.t 130), none⟩, 0), (⟨(some 132), .move (.t 17), none⟩, 0), (⟨(some 133), .iaddr 1 (.t 131) (.t 132), none⟩, 0), (⟨(some 134), .load (.t 133), none⟩, 0), (⟨(some 135), .iaddr 1 (.t 129) (.t 134), none⟩, 0), (⟨(some 136), .load (.t 135), none⟩, 0), (⟨(some 15), .move (.t 136), none⟩, 0)]))
  (.reg [⟨(some 123), .move (.t 18), none⟩, ⟨(some 124), .bin .sub (.t 123) (.c (.int .i64 (.ofNat 1))), none⟩, ⟨(some 18), .move (.t 124), none⟩]))))))))
  (.reg [⟨(some 93), .move (.t 17), none⟩, ⟨(some 94), .bin .sub (.t 93) (.c (.int .i64 (.ofNat 1))), none⟩, ⟨(some 17), .move (.t 94), none⟩]))))))
  (.draw [(⟨(some 137), .faddr 2 (.t 5), none⟩, 0), (⟨(some 138), .load (.t 137), none⟩, 0), (⟨(some 139), .faddr 4 (.t 1), none⟩, 0), (⟨(some 140), .load (.t 139), none⟩, 0), (⟨(some 141), .move (.t 15), none⟩, 0), (⟨(some 142), .iaddr 1 (.t 140) (.t 141), none⟩, 0), (⟨(some 143), .load (.t 142), none⟩, 0), (⟨(some 144), .buildSlice 4 1 1 [(.bool false)] [(0, (.t 143))], none⟩, 0), (⟨(some 145), .append 4 1 1 (.t 138) (.t 144), none⟩, 1), (⟨(some 146), .faddr 2 (.t 5), none⟩, 1), (⟨none, .store 1 (.t 146) (.t 145), none⟩, 2)]))))
  (.reg [⟨(some 84), .move (.t 14), none⟩, ⟨(some 85), .bin .add (.t 84) (.c (.int .i64 (.ofNat 1))), none⟩, ⟨(some 14), .move (.t 85), none⟩]))))))
  (.seq (.reg [⟨(some 147), .loadN 3 (.t 5), none⟩, ⟨none, .store 3 (.t 2) (.t 147), none⟩, ⟨(some 3), .move (.c (.int .i64 (.ofNat 0))), none⟩])
  .ret)))))))))⟩
theorem c62_ok : cFunc Go.Proofs.Try.prog Go.Proofs.Try.f62 = some c62 := by kernel_rfl
/-- semigroup/semigroupref37.Same -/
def c63 : CFunc := ⟨24, [.tmp 4], (.seq (.reg [⟨(some 2), .box 53 (.t 0), none⟩, ⟨(some 3), .box 53 (.t 1), none⟩, ⟨(some 4), .move (.c (.bool false)), none⟩])
  (.seq (.reg [⟨(some 5), .faddr 0 (.t 2), none⟩, ⟨(some 6), .load (.t 5), none⟩, ⟨(some 7), .faddr 0 (.t 3), none⟩, ⟨(some 8), .load (.t 7), none⟩, ⟨(some 9), .call 79 [(.t 6), (.t 8)], none⟩, ⟨(some 10), .move (.t 9), none⟩, ⟨(some 11), .faddr 1 (.t 2), (some (10, true))⟩, ⟨(some 12), .load (.t 11), (some (10, true))⟩, ⟨(some 13), .faddr 1 (.t 3), (some (10, true))⟩, ⟨(some 14), .load (.t 13), (some (10, true))⟩, ⟨(some 15), .call 79 [(.t 12), (.t 14)], (some (10, true))⟩, ⟨(some 16), .pick (.t 10) (.t 15) (.c (.bool false)), none⟩, ⟨(some 17), .move (.t 16), none⟩, ⟨(some 18), .faddr 2 (.t 2), (some (17, true))⟩, ⟨(some 19), .load (.t 18), (some (17, true))⟩, ⟨(some 20), .faddr 2 (.t 3), (some (17, true))⟩, ⟨(some 21), .load (.t 20), (some (17, true))⟩, ⟨(some 22), .call 97 [(.t 19), (.t 21)], (some (17, true))⟩, ⟨(some 23), .pick (.t 17) (.t 22) (.c (.bool false)), none⟩, ⟨(some 4), .move (.t 23), none⟩])
  .ret))⟩
theorem c63_ok : cFunc Go.Proofs.Try.prog Go.Proofs.Try.f63 = some c63 := by kernel_rfl
/-- semigroup/counting.size -/
def c67 : CFunc := ⟨38, [.tmp 4], (.seq (.reg [⟨(some 4), .move (.c (.int .i64 (.ofNat 0))), none⟩])
  (.seq (.reg [⟨(some 5), .move (.c (.int .i64 (.ofNat 1))), none⟩])
  (.seq (.seq (.reg [⟨(some 7), .move (.t 0), none⟩, ⟨(some 8), .lenSl (.t 7), none⟩, ⟨(some 9), .move (.c (.int .i64 (.ofNat 0))), none⟩])
  (.block 0 (.loop (.seq (.reg [⟨(some 10), .bin .lss (.t 9) (.t 8), none⟩])
  (.seq (.cond (.t 10) .skip (.exit 0))
  (.seq (.block 1 (.seq (.reg [⟨(some 11), .move (.t 9), none⟩, ⟨(some 6), .move (.t 11), none⟩])
  (.seq (.seq (.reg [⟨(some 12), .move (.t 0), none⟩, ⟨(some 13), .move (.t 6), none⟩, ⟨(some 14), .iaddr 1 (.t 12) (.t 13), none⟩, ⟨(some 15), .load (.t 14), none⟩, ⟨(some 16), .bin .gtr (.t 15) (.c (.int .i64 (.ofNat 2000))), none⟩, ⟨(some 17), .move (.t 16), none⟩, ⟨(some 18), .move (.t 1), (some (17, false))⟩, ⟨(some 19), .move (.t 6), (some (17, false))⟩, ⟨(some 20), .iaddr 1 (.t 18) (.t 19), (some (17, false))⟩, ⟨(some 21), .load (.t 20), (some (17, false))⟩, ⟨(some 22), .bin .gtr (.t 21) (.c (.int .i64 (.ofNat 2000))), (some (17, false))⟩, ⟨(some 23), .pick (.t 17) (.c (.bool true)) (.t 22), none⟩])
  (.cond (.t 23) (.seq (.reg [⟨(some 4), .move (.c (.int .i64 (.ofNat 2001))), none⟩])
  .ret) .skip))
  (.draw [(⟨(some 24), .move (.t 5), none⟩, 0), (⟨(some 25), .move (.t 0), none⟩, 0), (⟨(some 26), .move (.t 6), none⟩, 0), (⟨(some 27), .iaddr 1 (.t 25) (.t 26), none⟩, 0), (⟨(some 28), .load (.t 27), none⟩, 0), (⟨(some 29), .move (.t 1), none⟩, 0), (⟨(some 30), .move (.t 6), none⟩, 0), (⟨(some 31), .iaddr 1 (.t 29) (.t 30), none⟩, 0), (⟨(some 32), .load (.t 31), none⟩, 0), (⟨(some 33), .bin .add (.t 28) (.t 32), none⟩, 0), (⟨(some 34), .bin .mul (.t 24) (.t 33), none⟩, 0), (⟨(some 35), .most true (.t 34) (.c (.int .i64 (.ofNat 2001))), none⟩, 0), (⟨(some 5), .move (.t 35), none⟩, 0)]))))
  (.reg [⟨(some 36), .bin .add (.t 9) (.c (.int .i64 (.ofNat 1))), none⟩, ⟨(some 9), .move (.t 36), none⟩])))))))
  (.seq (.reg [⟨(some 37), .move (.t 5), none⟩, ⟨(some 4), .move (.t 37), none⟩])
  .ret))))⟩
theorem c67_ok : cFunc Go.Proofs.Try.prog Go.Proofs.Try.f67 = some c67 := by kernel_rfl
/-- semigroup/dfa.Validate -/
def c75 : CFunc := ⟨71, [.tmp 2], (.seq (.reg [⟨(some 1), .box 32 (.t 0), none⟩, ⟨(some 2), .move (.c (.int .i64 (.ofNat 0))), none⟩])
  (.seq (.reg [⟨(some 8), .faddr 2 (.t 1), none⟩, ⟨(some 9), .load (.t 8), none⟩, ⟨(some 10), .lenSl (.t 9), none⟩, ⟨(some 3), .move (.t 10), none⟩])
  (.seq (.block 0 (.seq (.reg [⟨(some 12), .faddr 0 (.t 1), none⟩, ⟨(some 13), .load (.t 12), none⟩, ⟨(some 14), .bin .lss (.t 13) (.c (.int .i64 (.ofNat 1))), none⟩, ⟨(some 15), .move (.t 14), none⟩, ⟨(some 16), .faddr 0 (.t 1), (some (15, false))⟩, ⟨(some 17), .load (.t 16), (some (15, false))⟩, ⟨(some 18), .bin .gtr (.t 17) (.c (.int .i64 (.ofNat 6))), (some (15, false))⟩, ⟨(some 19), .pick (.t 15) (.c (.bool true)) (.t 18), none⟩, ⟨(some 11), .move (.t 19), none⟩])
  (.cond (.t 11) (.seq (.reg [⟨(some 2), .move (.c (.int .i64 (.ofNat 1))), none⟩])
  .ret) (.seq (.reg [⟨(some 21), .move (.t 3), none⟩, ⟨(some 22), .bin .gtr (.t 21) (.c (.int .i64 (.ofNat 512))), none⟩, ⟨(some 20), .move (.t 22), none⟩])
  (.cond (.t 20) (.seq (.reg [⟨(some 2), .move (.c (.int .i64 (.ofNat 3))), none⟩])
  .ret) (.seq (.reg [⟨(some 24), .move (.t 3), none⟩, ⟨(some 25), .bin .eql (.t 24) (.c (.int .i64 (.ofNat 0))), none⟩, ⟨(some 26), .move (.t 25), none⟩, ⟨(some 27), .faddr 3 (.t 1), (some (26, false))⟩, ⟨(some 28), .load (.t 27), (some (26, false))⟩, ⟨(some 29), .lenSl (.t 28), (some (26, false))⟩, ⟨(some 30), .move (.t 3), (some (26, false))⟩, ⟨(some 31), .bin .neq (.t 29) (.t 30), (some (26, false))⟩, ⟨(some 32), .pick (.t 26) (.c (.bool true)) (.t 31), none⟩, ⟨(some 33), .move (.t 32), none⟩, ⟨(some 34), .faddr 1 (.t 1), (some (33, false))⟩, ⟨(some 35), .load (.t 34), (some (33, false))⟩, ⟨(some 36), .bin .lss (.t 35) (.c (.int .i64 (.ofNat 0))), (some (33, false))⟩, ⟨(some 37), .pick (.t 33) (.c (.bool true)) (.t 36), none⟩, ⟨(some 38), .move (.t 37), none⟩, ⟨(some 39), .faddr 1 (.t 1), (some (38, false))⟩, ⟨(some 40), .load (.t 39), (some (38, false))⟩, ⟨(some 41), .move (.t 3), (some (38, false))⟩, ⟨(some 42), .bin .geq (.t 40) (.t 41), (some (38, false))⟩, ⟨(some 43), .pick (.t 38) (.c (.bool true)) (.t 42), none⟩, ⟨(some 23), .move (.t 43), none⟩])
  (.cond (.t 23) (.seq (.reg [⟨(some 2), .move (.c (.int .i64 (.ofNat 4))), none⟩])
  .ret) .skip)))))))
  (.seq (.seq (.reg [⟨(some 44), .faddr 3 (.t 1), none⟩, ⟨(some 45), .load (.t 44), none⟩, ⟨(some 46), .lenSl (.t 45), none⟩, ⟨(some 47), .move (.c (.int .i64 (.ofNat 0))), none⟩])
  (.block 1 (.loop (.seq (.reg [⟨(some 48), .bin .lss (.t 47) (.t 46), none⟩])
  (.seq (.cond (.t 48) .skip (.exit 1))
  (.seq (.block 2 (.seq (.reg [⟨(some 49), .iaddr 1 (.t 45) (.t 47), none⟩, ⟨(some 50), .load (.t 49), none⟩, ⟨(some 5), .move (.t 50), none⟩])
  (.seq (.seq (.reg [⟨(some 51), .move (.t 5), none⟩, ⟨(some 52), .lenSl (.t 51), none⟩, ⟨(some 53), .faddr 0 (.t 1), none⟩, ⟨(some 54), .load (.t 53), none⟩, ⟨(some 55), .bin .neq (.t 52) (.t 54), none⟩])
  (.cond (.t 55) (.seq (.reg [⟨(some 2), .move (.c (.int .i64 (.ofNat 4))), none⟩])
  .ret) .skip))
  (.seq (.reg [⟨(some 56), .move (.t 5), none⟩, ⟨(some 57), .lenSl (.t 56), none⟩, ⟨(some 58), .move (.c (.int .i64 (.ofNat 0))), none⟩])
  (.block 3 (.loop (.seq (.reg [⟨(some 59), .bin .lss (.t 58) (.t 57), none⟩])
  (.seq (.cond (.t 59) .skip (.exit 3))
  (.seq (.block 4 (.seq (.reg [⟨(some 60), .iaddr 1 (.t 56) (.t 58), none⟩, ⟨(some 61), .load (.t 60), none⟩, ⟨(some 7), .move (.t 61), none⟩])
  (.seq (.reg [⟨(some 62), .move (.t 7), none⟩, ⟨(some 63), .bin .lss (.t 62) (.c (.int .i64 (.ofNat 0))), none⟩, ⟨(some 64), .move (.t 63), none⟩, ⟨(some 65), .move (.t 7), (some (64, false))⟩, ⟨(some 66), .move (.t 3), (some (64, false))⟩, ⟨(some 67), .bin .geq (.t 65) (.t 66), (some (64, false))⟩, ⟨(some 68), .pick (.t 64) (.c (.bool true)) (.t 67), none⟩])
  (.cond (.t 68) (.seq (.reg [⟨(some 2), .move (.c (.int .i64 (.ofNat 4))), none⟩])
  .ret) .skip))))
  (.reg [⟨(some 69), .bin .add (.t 58) (.c (.int .i64 (.ofNat 1))), none⟩, ⟨(some 58), .move (.t 69), none⟩]))))))))))
  (.reg [⟨(some 70), .bin .add (.t 47) (.c (.int .i64 (.ofNat 1))), none⟩, ⟨(some 47), .move (.t 70), none⟩])))))))
  (.seq (.reg [⟨(some 2), .move (.c (.int .i64 (.ofNat 0))), none⟩])
  .ret)))))⟩
theorem c75_ok : cFunc Go.Proofs.Try.prog Go.Proofs.Try.f75 = some c75 := by kernel_rfl
/-- semigroup/minimize.Minimal -/
def c78 : CFunc := ⟨15, [.cells 4 2], (.seq (.reg [⟨(some 1), .box 32 (.t 0), none⟩, ⟨(some 2), .alloc 32 [(.int .i64 (.ofNat 0)), (.int .i64 (.ofNat 0)), (.slice none 0 0), (.slice none 0 0)], none⟩])
  (.seq (.seq (.reg [⟨(some 5), .loadN 4 (.t 1), none⟩, ⟨(some 6), .call 75 [(.t 5)], none⟩, ⟨(some 7), .bin .neq (.t 6) (.c (.int .i64 (.ofNat 0))), none⟩])
  (.cond (.t 7) (.seq (.reg [⟨(some 8), .build [(.int .i64 (.ofNat 0)), (.int .i64 (.ofNat 0)), (.slice none 0 0), (.slice none 0 0)] [], none⟩, ⟨none, .store 4 (.t 2) (.t 8), none⟩])
  .ret) .skip))
  (.seq (.reg [⟨(some 10), .loadN 4 (.t 1), none⟩, ⟨(some 11), .call 102 [(.t 10)], none⟩, ⟨(some 9), .move (.t 11), none⟩, ⟨(some 12), .extract 0 (.t 9), none⟩, ⟨(some 13), .extract 1 (.t 9), none⟩, ⟨(some 3), .alloc 32 [(.int .i64 (.ofNat 0)), (.int .i64 (.ofNat 0)), (.slice none 0 0), (.slice none 0 0)], none⟩, ⟨none, .store 4 (.t 3) (.t 12), none⟩, ⟨(some 4), .move (.t 13), none⟩])
  (.seq (.reg [⟨(some 14), .loadN 4 (.t 3), none⟩, ⟨none, .store 4 (.t 2) (.t 14), none⟩])
  .ret))))⟩
theorem c78_ok : cFunc Go.Proofs.Try.prog Go.Proofs.Try.f78 = some c78 := by kernel_rfl
/-- semigroup/semigroupref03.Same -/
def c79 : CFunc := ⟨26, [.tmp 4], (.seq (.reg [⟨(some 4), .move (.c (.bool false)), none⟩])
  (.seq (.seq (.reg [⟨(some 6), .move (.t 0), none⟩, ⟨(some 7), .lenSl (.t 6), none⟩, ⟨(some 8), .move (.t 1), none⟩, ⟨(some 9), .lenSl (.t 8), none⟩, ⟨(some 10), .bin .neq (.t 7) (.t 9), none⟩])
  (.cond (.t 10) (.seq (.reg [⟨(some 4), .move (.c (.bool false)), none⟩])
  .ret) .skip))
  (.seq (.seq (.reg [⟨(some 11), .move (.t 0), none⟩, ⟨(some 12), .lenSl (.t 11), none⟩, ⟨(some 13), .move (.c (.int .i64 (.ofNat 0))), none⟩])
  (.block 0 (.loop (.seq (.reg [⟨(some 14), .bin .lss (.t 13) (.t 12), none⟩])
  (.seq (.cond (.t 14) .skip (.exit 0))
  (.seq (.block 1 (.seq (.reg [⟨(some 15), .move (.t 13), none⟩, ⟨(some 5), .move (.t 15), none⟩])
  (.seq (.draw [(⟨(some 16), .move (.t 0), none⟩, 0), (⟨(some 17), .move (.t 5), none⟩, 0), (⟨(some 18), .iaddr 1 (.t 16) (.t 17), none⟩, 0), (⟨(some 19), .load (.t 18), none⟩, 0), (⟨(some 20), .move (.t 1), none⟩, 0), (⟨(some 21), .move (.t 5), none⟩, 0), (⟨(some 22), .iaddr 1 (.t 20) (.t 21), none⟩, 0), (⟨(some 23), .load (.t 22), none⟩, 0), (⟨(some 24), .bin .neq (.t 19) (.t 23), none⟩, 0)])
  (.cond (.t 24) (.seq (.reg [⟨(some 4), .move (.c (.bool false)), none⟩])
  .ret) .skip))))
  (.reg [⟨(some 25), .bin .add (.t 13) (.c (.int .i64 (.ofNat 1))), none⟩, ⟨(some 13), .move (.t 25), none⟩])))))))
  (.seq (.reg [⟨(some 4), .move (.c (.bool true)), none⟩])
  .ret))))⟩
theorem c79_ok : cFunc Go.Proofs.Try.prog Go.Proofs.Try.f79 = some c79 := by kernel_rfl
/-- semigroup/semigroupref07.Validate -/
def c91 : CFunc := ⟨64, [.tmp 2], (.seq (.reg [⟨(some 1), .box 32 (.t 0), none⟩, ⟨(some 2), .move (.c (.int .i64 (.ofNat 0))), none⟩])
  (.seq (.reg [⟨(some 8), .faddr 2 (.t 1), none⟩, ⟨(some 9), .load (.t 8), none⟩, ⟨(some 10), .lenSl (.t 9), none⟩, ⟨(some 3), .move (.t 10), none⟩])
  (.seq (.seq (.reg [⟨(some 11), .faddr 0 (.t 1), none⟩, ⟨(some 12), .load (.t 11), none⟩, ⟨(some 13), .call 49 [(.t 12)], none⟩, ⟨(some 14), .not (.t 13), none⟩])
  (.cond (.t 14) (.seq (.reg [⟨(some 2), .move (.c (.int .i64 (.ofNat 1))), none⟩])
  .ret) .skip))
  (.seq (.seq (.reg [⟨(some 15), .move (.t 3), none⟩, ⟨(some 16), .bin .gtr (.t 15) (.c (.int .i64 (.ofNat 512))), none⟩])
  (.cond (.t 16) (.seq (.reg [⟨(some 2), .move (.c (.int .i64 (.ofNat 3))), none⟩])
  .ret) .skip))
  (.seq (.seq (.reg [⟨(some 17), .move (.t 3), none⟩, ⟨(some 18), .bin .eql (.t 17) (.c (.int .i64 (.ofNat 0))), none⟩, ⟨(some 19), .move (.t 18), none⟩, ⟨(some 20), .faddr 3 (.t 1), (some (19, false))⟩, ⟨(some 21), .load (.t 20), (some (19, false))⟩, ⟨(some 22), .lenSl (.t 21), (some (19, false))⟩, ⟨(some 23), .move (.t 3), (some (19, false))⟩, ⟨(some 24), .bin .neq (.t 22) (.t 23), (some (19, false))⟩, ⟨(some 25), .pick (.t 19) (.c (.bool true)) (.t 24), none⟩, ⟨(some 26), .move (.t 25), none⟩, ⟨(some 27), .faddr 1 (.t 1), (some (26, false))⟩, ⟨(some 28), .load (.t 27), (some (26, false))⟩, ⟨(some 29), .bin .lss (.t 28) (.c (.int .i64 (.ofNat 0))), (some (26, false))⟩, ⟨(some 30), .pick (.t 26) (.c (.bool true)) (.t 29), none⟩, ⟨(some 31), .move (.t 30), none⟩, ⟨(some 32), .faddr 1 (.t 1), (some (31, false))⟩, ⟨(some 33), .load (.t 32), (some (31, false))⟩, ⟨(some 34), .move (.t 3), (some (31, false))⟩, ⟨(some 35), .bin .geq (.t 33) (.t 34), (some (31, false))⟩, ⟨(some 36), .pick (.t 31) (.c (.bool true)) (.t 35), none⟩])
  (.cond (.t 36) (.seq (.reg [⟨(some 2), .move (.c (.int .i64 (.ofNat 4))), none⟩])
  .ret) .skip))
  (.seq (.seq (.reg [⟨(some 37), .faddr 3 (.t 1), none⟩, ⟨(some 38), .load (.t 37), none⟩, ⟨(some 39), .lenSl (.t 38), none⟩, ⟨(some 40), .move (.c (.int .i64 (.ofNat 0))), none⟩])
  (.block 0 (.loop (.seq (.reg [⟨(some 41), .bin .lss (.t 40) (.t 39), none⟩])
  (.seq (.cond (.t 41) .skip (.exit 0))
  (.seq (.block 1 (.seq (.reg [⟨(some 42), .iaddr 1 (.t 38) (.t 40), none⟩, ⟨(some 43), .load (.t 42), none⟩, ⟨(some 5), .move (.t 43), none⟩])
  (.seq (.seq (.reg [⟨(some 44), .move (.t 5), none⟩, ⟨(some 45), .lenSl (.t 44), none⟩, ⟨(some 46), .faddr 0 (.t 1), none⟩, ⟨(some 47), .load (.t 46), none⟩, ⟨(some 48), .bin .neq (.t 45) (.t 47), none⟩])
  (.cond (.t 48) (.seq (.reg [⟨(some 2), .move (.c (.int .i64 (.ofNat 4))), none⟩])
  .ret) .skip))
  (.seq (.reg [⟨(some 49), .move (.t 5), none⟩, ⟨(some 50), .lenSl (.t 49), none⟩, ⟨(some 51), .move (.c (.int .i64 (.ofNat 0))), none⟩])
  (.block 2 (.loop (.seq (.reg [⟨(some 52), .bin .lss (.t 51) (.t 50), none⟩])
  (.seq (.cond (.t 52) .skip (.exit 2))
  (.seq (.block 3 (.seq (.reg [⟨(some 53), .iaddr 1 (.t 49) (.t 51), none⟩, ⟨(some 54), .load (.t 53), none⟩, ⟨(some 7), .move (.t 54), none⟩])
  (.seq (.reg [⟨(some 55), .move (.t 7), none⟩, ⟨(some 56), .bin .lss (.t 55) (.c (.int .i64 (.ofNat 0))), none⟩, ⟨(some 57), .move (.t 56), none⟩, ⟨(some 58), .move (.t 7), (some (57, false))⟩, ⟨(some 59), .move (.t 3), (some (57, false))⟩, ⟨(some 60), .bin .geq (.t 58) (.t 59), (some (57, false))⟩, ⟨(some 61), .pick (.t 57) (.c (.bool true)) (.t 60), none⟩])
  (.cond (.t 61) (.seq (.reg [⟨(some 2), .move (.c (.int .i64 (.ofNat 4))), none⟩])
  .ret) .skip))))
  (.reg [⟨(some 62), .bin .add (.t 51) (.c (.int .i64 (.ofNat 1))), none⟩, ⟨(some 51), .move (.t 62), none⟩]))))))))))
  (.reg [⟨(some 63), .bin .add (.t 40) (.c (.int .i64 (.ofNat 1))), none⟩, ⟨(some 40), .move (.t 63), none⟩])))))))
  (.seq (.reg [⟨(some 2), .move (.c (.int .i64 (.ofNat 0))), none⟩])
  .ret)))))))⟩
theorem c91_ok : cFunc Go.Proofs.Try.prog Go.Proofs.Try.f91 = some c91 := by kernel_rfl
/-- semigroup/semigroupref08.Minimal -/
def c92 : CFunc := ⟨74, [.cells 4 2], (.seq (.reg [⟨(some 1), .box 32 (.t 0), none⟩, ⟨(some 2), .alloc 32 [(.int .i64 (.ofNat 0)), (.int .i64 (.ofNat 0)), (.slice none 0 0), (.slice none 0 0)], none⟩])
  (.seq (.reg [⟨(some 11), .loadN 4 (.t 1), none⟩, ⟨(some 12), .call 110 [(.t 11)], none⟩, ⟨(some 3), .move (.t 12), none⟩])
  (.seq (.draw [(⟨(some 13), .faddr 0 (.t 1), none⟩, 0), (⟨(some 14), .load (.t 13), none⟩, 0), (⟨(some 15), .move (.t 3), none⟩, 0), (⟨(some 16), .faddr 1 (.t 1), none⟩, 0), (⟨(some 17), .load (.t 16), none⟩, 0), (⟨(some 18), .iaddr 1 (.t 15) (.t 17), none⟩, 0), (⟨(some 19), .load (.t 18), none⟩, 0), (⟨(some 20), .build [(.int .i64 (.ofNat 0)), (.int .i64 (.ofNat 0)), (.slice none 0 0), (.slice none 0 0)] [(0, 1, (.t 14)), (1, 1, (.t 19))], none⟩, 0), (⟨(some 4), .alloc 32 [(.int .i64 (.ofNat 0)), (.int .i64 (.ofNat 0)), (.slice none 0 0), (.slice none 0 0)], none⟩, 0), (⟨none, .store 4 (.t 4) (.t 20), none⟩, 1)])
  (.seq (.reg [⟨(some 5), .move (.c (.int .i64 (.ofNat 0))), none⟩])
  (.seq (.seq (.reg [⟨(some 21), .move (.t 3), none⟩, ⟨(some 22), .lenSl (.t 21), none⟩, ⟨(some 23), .move (.c (.int .i64 (.ofNat 0))), none⟩])
  (.block 0 (.loop (.seq (.reg [⟨(some 24), .bin .lss (.t 23) (.t 22), none⟩])
  (.seq (.cond (.t 24) .skip (.exit 0))
  (.seq (.block 1 (.seq (.reg [⟨(some 25), .move (.t 23), none⟩, ⟨(some 26), .iaddr 1 (.t 21) (.t 23), none⟩, ⟨(some 27), .load (.t 26), none⟩, ⟨(some 6), .move (.t 25), none⟩, ⟨(some 7), .move (.t 27), none⟩])
  (.seq (.seq (.reg [⟨(some 28), .move (.t 7), none⟩, ⟨(some 29), .move (.t 5), none⟩, ⟨(some 30), .bin .neq (.t 28) (.t 29), none⟩])
  (.cond (.t 30) (.exit 1) .skip))
  (.seq (.reg [⟨(some 31), .move (.t 5), none⟩, ⟨(some 32), .bin .add (.t 31) (.c (.int .i64 (.ofNat 1))), none⟩, ⟨(some 5), .move (.t 32), none⟩])
  (.seq (.reg [⟨(some 8), .move (.c (.slice none 0 0)), none⟩])
  (.seq (.seq (.reg [⟨(some 33), .faddr 3 (.t 1), none⟩, ⟨(some 34), .load (.t 33), none⟩, ⟨(some 35), .move (.t 6), none⟩, ⟨(some 36), .iaddr 1 (.t 34) (.t 35), none⟩, ⟨(some 37), .load (.t 36), none⟩, ⟨(some 38), .lenSl (.t 37), none⟩, ⟨(some 39), .move (.c (.int .i64 (.ofNat 0))), none⟩])
  (.block 2 (.loop (.seq (.reg [⟨(some 40), .bin .lss (.t 39) (.t 38), none⟩])
  (.seq (.cond (.t 40) .skip (.exit 2))
  (.seq (.block 3 (.seq (.reg [⟨(some 41), .iaddr 1 (.t 37) (.t 39), none⟩, ⟨(some 42), .load (.t 41), none⟩, ⟨(some 10), .move (.t 42), none⟩])
  (.reg [⟨(some 43), .move (.t 8), none⟩, ⟨(some 44), .move (.t 3), none⟩, ⟨(some 45), .move (.t 10), none⟩, ⟨(some 46), .iaddr 1 (.t 44) (.t 45), none⟩, ⟨(some 47), .load (.t 46), none⟩, ⟨(some 48), .buildSlice 3 1 1 [(.int .i64 (.ofNat 0))] [(0, (.t 47))], none⟩, ⟨(some 49), .append 3 1 8 (.t 43) (.t 48), none⟩, ⟨(some 8), .move (.t 49), none⟩])))
  (.reg [⟨(some 50), .bin .add (.t 39) (.c (.int .i64 (.ofNat 1))), none⟩, ⟨(some 39), .move (.t 50), none⟩])))))))
  (.draw [(⟨(some 51), .faddr 3 (.t 4), none⟩, 0), (⟨(some 52), .load (.t 51), none⟩, 0), (⟨(some 53), .move (.t 8), none⟩, 0), (⟨(some 54), .buildSlice 22 1 1 [(.slice none 0 0)] [(0, (.t 53))], none⟩, 0), (⟨(some 56), .faddr 2 (.t 4), none⟩, 1), (⟨(some 57), .load (.t 56), none⟩, 1), (⟨(some 58), .faddr 2 (.t 1), none⟩, 1), (⟨(some 59), .load (.t 58), none⟩, 1), (⟨(some 60), .move (.t 6), none⟩, 1), (⟨(some 61), .iaddr 1 (.t 59) (.t 60), none⟩, 1), (⟨(some 62), .load (.t 61), none⟩, 1), (⟨(some 63), .buildSlice 4 1 1 [(.bool false)] [(0, (.t 62))], none⟩, 1), (⟨(some 55), .append 22 1 24 (.t 52) (.t 54), none⟩, 1), (⟨(some 65), .faddr 3 (.t 4), none⟩, 2), (⟨(some 64), .append 4 1 1 (.t 57) (.t 63), none⟩, 2), (⟨none, .store 1 (.t 65) (.t 55), none⟩, 3), (⟨(some 66), .faddr 2 (.t 4), none⟩, 3), (⟨none, .store 1 (.t 66) (.t 64), none⟩, 4)])))))))
  (.reg [⟨(some 67), .bin .add (.t 23) (.c (.int .i64 (.ofNat 1))), none⟩, ⟨(some 23), .move (.t 67), none⟩])))))))
  (.seq (.reg [⟨(some 69), .loadN 4 (.t 4), none⟩, ⟨(some 70), .call 111 [(.t 69)], none⟩, ⟨(some 68), .move (.t 70), none⟩, ⟨(some 71), .extract 0 (.t 68), none⟩, ⟨(some 72), .extract 1 (.t 68), none⟩, ⟨none, .store 4 (.t 4) (.t 71), none⟩])
  (.seq (.reg [⟨(some 73), .loadN 4 (.t 4), none⟩, ⟨none, .store 4 (.t 2) (.t 73), none⟩])
  .ret)))))))⟩
theorem c92_ok : cFunc Go.Proofs.Try.prog Go.Proofs.Try.f92 = some c92 := by kernel_rfl
/-- semigroup/semigroupref21.of -/
def c93 : CFunc := ⟨101, [.cells 6 6, .tmp 7], (.seq (.reg [⟨(some 6), .alloc 101 [(.int .i64 (.ofNat 0)), (.slice none 0 0), (.slice none 0 0), (.slice none 0 0), (.slice none 0 0), (.slice none 0 0)], none⟩, ⟨(some 7), .move (.c (.int .i64 (.ofNat 0))), none⟩])
  (.seq (.reg [⟨(some 18), .move (.t 0), none⟩, ⟨(some 19), .call 112 [(.t 18), (.c (.bool true))], none⟩, ⟨(some 17), .move (.t 19), none⟩, ⟨(some 20), .extract 0 (.t 17), none⟩, ⟨(some 21), .extract 1 (.t 17), none⟩, ⟨(some 8), .alloc 163 [(.int .i64 (.ofNat 0)), (.bool false), (.slice none 0 0), (.slice none 0 0), (.slice none 0 0), (.slice none 0 0), (.slice none 0 0), (.slice none 0 0), (.int .i64 (.ofNat 0))], none⟩, ⟨none, .store 9 (.t 8) (.t 20), none⟩, ⟨(some 9), .move (.t 21), none⟩])
  (.seq (.seq (.reg [⟨(some 22), .move (.t 9), none⟩, ⟨(some 23), .bin .neq (.t 22) (.c (.int .i64 (.ofNat 0))), none⟩, ⟨(some 24), .move (.t 23), none⟩, ⟨(some 25), .faddr 3 (.t 8), (some (24, false))⟩, ⟨(some 26), .load (.t 25), (some (24, false))⟩, ⟨(some 27), .lenSl (.t 26), (some (24, false))⟩, ⟨(some 28), .bin .gtr (.t 27) (.c (.int .i64 (.ofNat 400))), (some (24, false))⟩, ⟨(some 29), .pick (.t 24) (.c (.bool true)) (.t 28), none⟩])
  (.cond (.t 29) (.seq (.reg [⟨(some 30), .build [(.int .i64 (.ofNat 0)), (.slice none 0 0), (.slice none 0 0), (.slice none 0 0), (.slice none 0 0), (.slice none 0 0)] [], none⟩, ⟨none, .store 6 (.t 6) (.t 30), none⟩, ⟨(some 7), .move (.c (.int .i64 (.ofNat 3))), none⟩])
  .ret) .skip))
  (.seq (.draw [(⟨(some 31), .move (.t 0), none⟩, 1), (⟨(some 32), .lenSl (.t 31), none⟩, 1), (⟨(some 33), .loadN 9 (.t 8), none⟩, 0), (⟨(some 35), .faddr 3 (.t 8), none⟩, 1), (⟨(some 36), .load (.t 35), none⟩, 1), (⟨(some 37), .lenSl (.t 36), none⟩, 1), (⟨(some 38), .mkSlice 4 1 1 [(.bool false)] (.t 37) (.t 37), none⟩, 1), (⟨(some 10), .alloc 101 [(.int .i64 (.ofNat 0)), (.slice none 0 0), (.slice none 0 0), (.slice none 0 0), (.slice none 0 0), (.slice none 0 0)], none⟩, 1), (⟨(some 34), .call 113 [(.t 33)], none⟩, 1), (⟨(some 39), .build [(.int .i64 (.ofNat 0)), (.slice none 0 0), (.slice none 0 0), (.slice none 0 0), (.slice none 0 0), (.slice none 0 0)] [(0, 1, (.t 32)), (1, 1, (.t 34)), (5, 1, (.t 38))], none⟩, 1), (⟨none, .store 6 (.t 10) (.t 39), none⟩, 2)])
  (.seq (.seq (.reg [⟨(some 40), .faddr 3 (.t 8), none⟩, ⟨(some 41), .load (.t 40), none⟩, ⟨(some 42), .lenSl (.t 41), none⟩, ⟨(some 43), .move (.c (.int .i64 (.ofNat 0))), none⟩])
  (.block 0 (.loop (.seq (.reg [⟨(some 44), .bin .lss (.t 43) (.t 42), none⟩])
  (.seq (.cond (.t 44) .skip (.exit 0))
  (.seq (.block 1 (.seq (.reg [⟨(some 45), .move (.t 43), none⟩, ⟨(some 46), .iaddr 1 (.t 41) (.t 43), none⟩, ⟨(some 47), .load (.t 46), none⟩, ⟨(some 11), .move (.t 45), none⟩, ⟨(some 12), .move (.t 47), none⟩])
  (.seq (.draw [(⟨(some 48), .faddr 2 (.t 10), none⟩, 1), (⟨(some 49), .load (.t 48), none⟩, 1), (⟨(some 50), .loadN 9 (.t 8), none⟩, 0), (⟨(some 51), .move (.t 11), none⟩, 0), (⟨(some 52), .call 114 [(.t 50), (.t 51)], none⟩, 1), (⟨(some 53), .buildSlice 9 1 1 [(.string ⟨⟨[]⟩⟩)] [(0, (.t 52))], none⟩, 1), (⟨(some 54), .append 9 1 16 (.t 49) (.t 53), none⟩, 2), (⟨(some 55), .faddr 2 (.t 10), none⟩, 2), (⟨none, .store 1 (.t 55) (.t 54), none⟩, 3)])
  (.draw [(⟨(some 56), .faddr 4 (.t 10), none⟩, 0), (⟨(some 57), .load (.t 56), none⟩, 0), (⟨(some 58), .move (.t 2), none⟩, 0), (⟨(some 59), .move (.t 12), none⟩, 0), (⟨(some 60), .move (.t 1), none⟩, 0), (⟨(some 61), .iaddr 1 (.t 59) (.t 60), none⟩, 0), (⟨(some 62), .load (.t 61), none⟩, 0), (⟨(some 63), .iaddr 1 (.t 58) (.t 62), none⟩, 0), (⟨(some 64), .load (.t 63), none⟩, 0), (⟨(some 65), .buildSlice 4 1 1 [(.bool false)] [(0, (.t 64))], none⟩, 0), (⟨(some 66), .append 4 1 1 (.t 57) (.t 65), none⟩, 1), (⟨(some 67), .faddr 4 (.t 10), none⟩, 1), (⟨none, .store 1 (.t 67) (.t 66), none⟩, 2)]))))
  (.reg [⟨(some 68), .bin .add (.t 43) (.c (.int .i64 (.ofNat 1))), none⟩, ⟨(some 43), .move (.t 68), none⟩])))))))
  (.seq (.seq (.reg [⟨(some 69), .move (.t 0), none⟩, ⟨(some 70), .lenSl (.t 69), none⟩, ⟨(some 71), .move (.c (.int .i64 (.ofNat 0))), none⟩])
  (.block 2 (.loop (.seq (.reg [⟨(some 72), .bin .lss (.t 71) (.t 70), none⟩])
  (.seq (.cond (.t 72) .skip (.exit 2))
  (.seq (.block 3 (.seq (.reg [⟨(some 73), .iaddr 1 (.t 69) (.t 71), none⟩, ⟨(some 74), .load (.t 73), none⟩, ⟨(some 14), .move (.t 74), none⟩])
  (.draw [(⟨(some 75), .faddr 3 (.t 10), none⟩, 1), (⟨(some 76), .load (.t 75), none⟩, 1), (⟨(some 77), .faddr 3 (.t 8), none⟩, 0), (⟨(some 78), .load (.t 77), none⟩, 0), (⟨(some 79), .move (.t 14), none⟩, 0), (⟨(some 80), .call 115 [(.t 78), (.t 79)], none⟩, 1), (⟨(some 81), .buildSlice 3 1 1 [(.int .i64 (.ofNat 0))] [(0, (.t 80))], none⟩, 1), (⟨(some 82), .append 3 1 8 (.t 76) (.t 81), none⟩, 2), (⟨(some 83), .faddr 3 (.t 10), none⟩, 2), (⟨none, .store 1 (.t 83) (.t 82), none⟩, 3)])))
  (.reg [⟨(some 84), .bin .add (.t 71) (.c (.int .i64 (.ofNat 1))), none⟩, ⟨(some 71), .move (.t 84), none⟩])))))))
  (.seq (.seq (.reg [⟨(some 85), .faddr 1 (.t 10), none⟩, ⟨(some 86), .load (.t 85), none⟩, ⟨(some 87), .faddr 3 (.t 10), none⟩, ⟨(some 88), .load (.t 87), none⟩, ⟨(some 89), .call 116 [(.t 86), (.t 88)], none⟩, ⟨(some 90), .lenSl (.t 89), none⟩, ⟨(some 91), .move (.c (.int .i64 (.ofNat 0))), none⟩])
  (.block 4 (.loop (.seq (.reg [⟨(some 92), .bin .lss (.t 91) (.t 90), none⟩])
  (.seq (.cond (.t 92) .skip (.exit 4))
  (.seq (.block 5 (.seq (.reg [⟨(some 93), .iaddr 1 (.t 89) (.t 91), none⟩, ⟨(some 94), .load (.t 93), none⟩, ⟨(some 16), .move (.t 94), none⟩])
  (.reg [⟨(some 95), .faddr 5 (.t 10), none⟩, ⟨(some 96), .load (.t 95), none⟩, ⟨(some 97), .move (.t 16), none⟩, ⟨(some 98), .iaddr 1 (.t 96) (.t 97), none⟩, ⟨none, .store 1 (.t 98) (.c (.bool true)), none⟩])))
  (.reg [⟨(some 99), .bin .add (.t 91) (.c (.int .i64 (.ofNat 1))), none⟩, ⟨(some 91), .move (.t 99), none⟩])))))))
  (.seq (.reg [⟨(some 100), .loadN 6 (.t 10), none⟩, ⟨none, .store 6 (.t 6) (.t 100), none⟩, ⟨(some 7), .move (.c (.int .i64 (.ofNat 0))), none⟩])
  .ret))))))))⟩
theorem c93_ok : cFunc Go.Proofs.Try.prog Go.Proofs.Try.f93 = some c93 := by kernel_rfl
/-- semigroup/semigroupref11.OfDFA -/
def c94 : CFunc := ⟨36, [.tmp 2], (.seq (.reg [⟨(some 1), .box 32 (.t 0), none⟩, ⟨(some 2), .move (.c (.slice none 0 0)), none⟩])
  (.seq (.reg [⟨(some 3), .move (.c (.slice none 0 0)), none⟩])
  (.seq (.seq (.reg [⟨(some 4), .move (.c (.int .i64 (.ofNat 0))), none⟩])
  (.block 0 (.loop (.seq (.seq (.reg [⟨(some 7), .move (.t 4), none⟩, ⟨(some 8), .faddr 0 (.t 1), none⟩, ⟨(some 9), .load (.t 8), none⟩, ⟨(some 10), .bin .lss (.t 7) (.t 9), none⟩])
  (.cond (.t 10) .skip (.exit 0)))
  (.seq (.block 1 (.seq (.reg [⟨(some 5), .move (.c (.slice none 0 0)), none⟩])
  (.seq (.seq (.reg [⟨(some 13), .faddr 3 (.t 1), none⟩, ⟨(some 14), .load (.t 13), none⟩, ⟨(some 15), .lenSl (.t 14), none⟩, ⟨(some 16), .move (.c (.int .i64 (.ofNat 0))), none⟩])
  (.block 2 (.loop (.seq (.reg [⟨(some 17), .bin .lss (.t 16) (.t 15), none⟩])
  (.seq (.cond (.t 17) .skip (.exit 2))
  (.seq (.block 3 (.seq (.reg [⟨(some 18), .move (.t 16), none⟩, ⟨(some 6), .move (.t 18), none⟩])
  (.reg [⟨(some 19), .move (.t 5), none⟩, ⟨(some 20), .faddr 3 (.t 1), none⟩, ⟨(some 21), .load (.t 20), none⟩, ⟨(some 22), .move (.t 6), none⟩, ⟨(some 23), .iaddr 1 (.t 21) (.t 22), none⟩, ⟨(some 24), .load (.t 23), none⟩, ⟨(some 25), .move (.t 4), none⟩, ⟨(some 26), .iaddr 1 (.t 24) (.t 25), none⟩, ⟨(some 27), .load (.t 26), none⟩, ⟨(some 28), .buildSlice 3 1 1 [(.int .i64 (.ofNat 0))] [(0, (.t 27))], none⟩, ⟨(some 29), .append 3 1 8 (.t 19) (.t 28), none⟩, ⟨(some 5), .move (.t 29), none⟩])))
  (.reg [⟨(some 30), .bin .add (.t 16) (.c (.int .i64 (.ofNat 1))), none⟩, ⟨(some 16), .move (.t 30), none⟩])))))))
  (.reg [⟨(some 31), .move (.t 3), none⟩, ⟨(some 32), .move (.t 5), none⟩, ⟨(some 33), .buildSlice 22 1 1 [(.slice none 0 0)] [(0, (.t 32))], none⟩, ⟨(some 34), .append 22 1 24 (.t 31) (.t 33), none⟩, ⟨(some 3), .move (.t 34), none⟩]))))
  (.reg [⟨(some 11), .move (.t 4), none⟩, ⟨(some 12), .bin .add (.t 11) (.c (.int .i64 (.ofNat 1))), none⟩, ⟨(some 4), .move (.t 12), none⟩]))))))
  (.seq (.reg [⟨(some 35), .move (.t 3), none⟩, ⟨(some 2), .move (.t 35), none⟩])
  .ret))))⟩
theorem c94_ok : cFunc Go.Proofs.Try.prog Go.Proofs.Try.f94 = some c94 := by kernel_rfl
/-- semigroup/syntactic.Validate -/
def c95 : CFunc := ⟨6, [.tmp 2], (.seq (.reg [⟨(some 1), .box 101 (.t 0), none⟩, ⟨(some 2), .move (.c (.int .i64 (.ofNat 0))), none⟩])
  (.seq (.seq (.reg [⟨(some 3), .loadN 6 (.t 1), none⟩, ⟨(some 4), .call 117 [(.t 3)], none⟩, ⟨(some 5), .not (.t 4), none⟩])
  (.cond (.t 5) (.seq (.reg [⟨(some 2), .move (.c (.int .i64 (.ofNat 8))), none⟩])
  .ret) .skip))
  (.seq (.reg [⟨(some 2), .move (.c (.int .i64 (.ofNat 0))), none⟩])
  .ret)))⟩
theorem c95_ok : cFunc Go.Proofs.Try.prog Go.Proofs.Try.f95 = some c95 := by kernel_rfl
/-- semigroup/mult.Commutative -/
def c96 : CFunc := ⟨14, [.tmp 2], (.seq (.reg [⟨(some 2), .move (.c (.bool false)), none⟩])
  (.seq (.reg [⟨(some 3), .move (.t 0), none⟩, ⟨(some 4), .call 118 [(.t 3)], none⟩, ⟨(some 5), .bin .eql (.t 4) (.c (.int .i64 (.ofNat 0))), none⟩, ⟨(some 6), .move (.t 5), none⟩, ⟨(some 7), .move (.t 0), (some (6, true))⟩, ⟨(some 8), .call 119 [(.t 7)], (some (6, true))⟩, ⟨(some 9), .lenSl (.t 8), (some (6, true))⟩, ⟨(some 10), .move (.t 0), (some (6, true))⟩, ⟨(some 11), .lenSl (.t 10), (some (6, true))⟩, ⟨(some 12), .bin .eql (.t 9) (.t 11), (some (6, true))⟩, ⟨(some 13), .pick (.t 6) (.t 12) (.c (.bool false)), none⟩, ⟨(some 2), .move (.t 13), none⟩])
  .ret))⟩
theorem c96_ok : cFunc Go.Proofs.Try.prog Go.Proofs.Try.f96 = some c96 := by kernel_rfl
/-- semigroup/semigroupref21.SameBools -/
def c97 : CFunc := ⟨26, [.tmp 4], (.seq (.reg [⟨(some 4), .move (.c (.bool false)), none⟩])
  (.seq (.seq (.reg [⟨(some 6), .move (.t 0), none⟩, ⟨(some 7), .lenSl (.t 6), none⟩, ⟨(some 8), .move (.t 1), none⟩, ⟨(some 9), .lenSl (.t 8), none⟩, ⟨(some 10), .bin .neq (.t 7) (.t 9), none⟩])
  (.cond (.t 10) (.seq (.reg [⟨(some 4), .move (.c (.bool false)), none⟩])
  .ret) .skip))
  (.seq (.seq (.reg [⟨(some 11), .move (.t 0), none⟩, ⟨(some 12), .lenSl (.t 11), none⟩, ⟨(some 13), .move (.c (.int .i64 (.ofNat 0))), none⟩])
  (.block 0 (.loop (.seq (.reg [⟨(some 14), .bin .lss (.t 13) (.t 12), none⟩])
  (.seq (.cond (.t 14) .skip (.exit 0))
  (.seq (.block 1 (.seq (.reg [⟨(some 15), .move (.t 13), none⟩, ⟨(some 5), .move (.t 15), none⟩])
  (.seq (.draw [(⟨(some 16), .move (.t 0), none⟩, 0), (⟨(some 17), .move (.t 5), none⟩, 0), (⟨(some 18), .iaddr 1 (.t 16) (.t 17), none⟩, 0), (⟨(some 19), .load (.t 18), none⟩, 0), (⟨(some 20), .move (.t 1), none⟩, 0), (⟨(some 21), .move (.t 5), none⟩, 0), (⟨(some 22), .iaddr 1 (.t 20) (.t 21), none⟩, 0), (⟨(some 23), .load (.t 22), none⟩, 0), (⟨(some 24), .eqB true (.t 19) (.t 23), none⟩, 0)])
  (.cond (.t 24) (.seq (.reg [⟨(some 4), .move (.c (.bool false)), none⟩])
  .ret) .skip))))
  (.reg [⟨(some 25), .bin .add (.t 13) (.c (.int .i64 (.ofNat 1))), none⟩, ⟨(some 13), .move (.t 25), none⟩])))))))
  (.seq (.reg [⟨(some 4), .move (.c (.bool true)), none⟩])
  .ret))))⟩
theorem c97_ok : cFunc Go.Proofs.Try.prog Go.Proofs.Try.f97 = some c97 := by kernel_rfl
/-- semigroup/minimize.minimal -/
def c102 : CFunc := ⟨125, [.cells 4 2, .tmp 3], (.seq (.reg [⟨(some 1), .box 32 (.t 0), none⟩, ⟨(some 2), .alloc 32 [(.int .i64 (.ofNat 0)), (.int .i64 (.ofNat 0)), (.slice none 0 0), (.slice none 0 0)], none⟩, ⟨(some 3), .move (.c (.slice none 0 0)), none⟩])
  (.seq (.reg [⟨(some 18), .loadN 4 (.t 1), none⟩, ⟨(some 19), .call 121 [(.t 18)], none⟩, ⟨(some 17), .move (.t 19), none⟩, ⟨(some 20), .extract 0 (.t 17), none⟩, ⟨(some 21), .extract 1 (.t 17), none⟩, ⟨(some 4), .alloc 32 [(.int .i64 (.ofNat 0)), (.int .i64 (.ofNat 0)), (.slice none 0 0), (.slice none 0 0)], none⟩, ⟨none, .store 4 (.t 4) (.t 20), none⟩, ⟨(some 5), .move (.t 21), none⟩])
  (.seq (.reg [⟨(some 22), .loadN 4 (.t 4), none⟩, ⟨(some 23), .call 122 [(.t 22)], none⟩, ⟨(some 6), .move (.t 23), none⟩])
  (.seq (.draw [(⟨(some 24), .faddr 0 (.t 4), none⟩, 0), (⟨(some 25), .load (.t 24), none⟩, 0), (⟨(some 26), .move (.t 6), none⟩, 0), (⟨(some 27), .iaddr 1 (.t 26) (.c (.int .i64 (.ofNat 0))), none⟩, 0), (⟨(some 28), .load (.t 27), none⟩, 0), (⟨(some 29), .build [(.int .i64 (.ofNat 0)), (.int .i64 (.ofNat 0)), (.slice none 0 0), (.slice none 0 0)] [(0, 1, (.t 25)), (1, 1, (.t 28))], none⟩, 0), (⟨(some 7), .alloc 32 [(.int .i64 (.ofNat 0)), (.int .i64 (.ofNat 0)), (.slice none 0 0), (.slice none 0 0)], none⟩, 0), (⟨none, .store 4 (.t 7) (.t 29), none⟩, 1)])
  (.seq (.reg [⟨(some 30), .move (.t 6), none⟩, ⟨(some 31), .call 123 [(.t 30)], none⟩, ⟨(some 32), .mkSlice 4 1 1 [(.bool false)] (.t 31) (.t 31), none⟩, ⟨(some 33), .faddr 2 (.t 7), none⟩, ⟨none, .store 1 (.t 33) (.t 32), none⟩])
  (.seq (.reg [⟨(some 34), .faddr 2 (.t 7), none⟩, ⟨(some 35), .load (.t 34), none⟩, ⟨(some 36), .lenSl (.t 35), none⟩, ⟨(some 37), .mkSlice 22 24 1 [(.slice none 0 0)] (.t 36) (.t 36), none⟩, ⟨(some 38), .faddr 3 (.t 7), none⟩, ⟨none, .store 1 (.t 38) (.t 37), none⟩])
  (.seq (.seq (.reg [⟨(some 39), .move (.t 6), none⟩, ⟨(some 40), .lenSl (.t 39), none⟩, ⟨(some 41), .move (.c (.int .i64 (.ofNat 0))), none⟩])
  (.block 0 (.loop (.seq (.reg [⟨(some 42), .bin .lss (.t 41) (.t 40), none⟩])
  (.seq (.cond (.t 42) .skip (.exit 0))
  (.seq (.block 1 (.seq (.reg [⟨(some 43), .move (.t 41), none⟩, ⟨(some 44), .iaddr 1 (.t 39) (.t 41), none⟩, ⟨(some 45), .load (.t 44), none⟩, ⟨(some 8), .move (.t 43), none⟩, ⟨(some 9), .move (.t 45), none⟩])
  (.seq (.seq (.reg [⟨(some 46), .faddr 3 (.t 7), none⟩, ⟨(some 47), .load (.t 46), none⟩, ⟨(some 48), .move (.t 9), none⟩, ⟨(some 49), .iaddr 1 (.t 47) (.t 48), none⟩, ⟨(some 50), .load (.t 49), none⟩, ⟨(some 51), .eqNil .sl true (.t 50), none⟩])
  (.cond (.t 51) (.exit 1) .skip))
  (.seq (.draw [(⟨(some 52), .faddr 2 (.t 7), none⟩, 0), (⟨(some 53), .load (.t 52), none⟩, 0), (⟨(some 54), .move (.t 9), none⟩, 0), (⟨(some 55), .faddr 2 (.t 4), none⟩, 0), (⟨(some 56), .load (.t 55), none⟩, 0), (⟨(some 57), .move (.t 8), none⟩, 0), (⟨(some 58), .iaddr 1 (.t 56) (.t 57), none⟩, 0), (⟨(some 59), .load (.t 58), none⟩, 0), (⟨(some 60), .iaddr 1 (.t 53) (.t 54), none⟩, 0), (⟨none, .store 1 (.t 60) (.t 59), none⟩, 1)])
  (.seq (.draw [(⟨(some 61), .faddr 3 (.t 7), none⟩, 0), (⟨(some 62), .load (.t 61), none⟩, 0), (⟨(some 63), .move (.t 9), none⟩, 0), (⟨(some 64), .faddr 0 (.t 4), none⟩, 0), (⟨(some 65), .load (.t 64), none⟩, 0), (⟨(some 66), .mkSlice 3 8 1 [(.int .i64 (.ofNat 0))] (.t 65) (.t 65), none⟩, 0), (⟨(some 67), .iaddr 1 (.t 62) (.t 63), none⟩, 0), (⟨none, .store 1 (.t 67) (.t 66), none⟩, 1)])
  (.seq (.reg [⟨(some 68), .faddr 3 (.t 4), none⟩, ⟨(some 69), .load (.t 68), none⟩, ⟨(some 70), .move (.t 8), none⟩, ⟨(some 71), .iaddr 1 (.t 69) (.t 70), none⟩, ⟨(some 72), .load (.t 71), none⟩, ⟨(some 73), .lenSl (.t 72), none⟩, ⟨(some 74), .move (.c (.int .i64 (.ofNat 0))), none⟩])
  (.block 2 (.loop (.seq (.reg [⟨(some 75), .bin .lss (.t 74) (.t 73), none⟩])
  (.seq (.cond (.t 75) .skip (.exit 2))
  (.seq (.block 3 (.seq (.reg [⟨(some 76), .move (.t 74), none⟩, ⟨(some 77), .iaddr 1 (.t 72) (.t 74), none⟩, ⟨(some 78), .load (.t 77), none⟩, ⟨(some 10), .move (.t 76), none⟩, ⟨(some 11), .move (.t 78), none⟩])
  (.draw [(⟨(some 79), .faddr 3 (.t 7), none⟩, 0), (⟨(some 80), .load (.t 79), none⟩, 0), (⟨(some 81), .move (.t 9), none⟩, 0), (⟨(some 82), .iaddr 1 (.t 80) (.t 81), none⟩, 0), (⟨(some 83), .load (.t 82), none⟩, 0), (⟨(some 84), .move (.t 10), none⟩, 0), (⟨(some 85), .move (.t 6), none⟩, 0), (⟨(some 86), .move (.t 11), none⟩, 0), (⟨(some 87), .iaddr 1 (.t 85) (.t 86), none⟩, 0), (⟨(some 88), .load (.t 87), none⟩, 0), (⟨(some 89), .iaddr 1 (.t 83) (.t 84), none⟩, 0), (⟨none, .store 1 (.t 89) (.t 88), none⟩, 1)])))
  (.reg [⟨(some 90), .bin .add (.t 74) (.c (.int .i64 (.ofNat 1))), none⟩, ⟨(some 74), .move (.t 90), none⟩]))))))))))))
  (.reg [⟨(some 91), .bin .add (.t 41) (.c (.int .i64 (.ofNat 1))), none⟩, ⟨(some 41), .move (.t 91), none⟩])))))))
  (.seq (.reg [⟨(some 93), .loadN 4 (.t 7), none⟩, ⟨(some 94), .call 121 [(.t 93)], none⟩, ⟨(some 92), .move (.t 94), none⟩, ⟨(some 95), .extract 0 (.t 92), none⟩, ⟨(some 96), .extract 1 (.t 92), none⟩, ⟨(some 12), .alloc 32 [(.int .i64 (.ofNat 0)), (.int .i64 (.ofNat 0)), (.slice none 0 0), (.slice none 0 0)], none⟩, ⟨none, .store 4 (.t 12) (.t 95), none⟩, ⟨(some 13), .move (.t 96), none⟩])
  (.seq (.reg [⟨(some 97), .move (.t 5), none⟩, ⟨(some 98), .lenSl (.t 97), none⟩, ⟨(some 99), .mkSlice 3 8 1 [(.int .i64 (.ofNat 0))] (.t 98) (.t 98), none⟩, ⟨(some 14), .move (.t 99), none⟩])
  (.seq (.seq (.reg [⟨(some 100), .move (.t 5), none⟩, ⟨(some 101), .lenSl (.t 100), none⟩, ⟨(some 102), .move (.c (.int .i64 (.ofNat 0))), none⟩])
  (.block 4 (.loop (.seq (.reg [⟨(some 103), .bin .lss (.t 102) (.t 101), none⟩])
  (.seq (.cond (.t 103) .skip (.exit 4))
  (.seq (.block 5 (.seq (.reg [⟨(some 104), .move (.t 102), none⟩, ⟨(some 105), .iaddr 1 (.t 100) (.t 102), none⟩, ⟨(some 106), .load (.t 105), none⟩, ⟨(some 15), .move (.t 104), none⟩, ⟨(some 16), .move (.t 106), none⟩])
  (.seq (.reg [⟨(some 107), .move (.t 14), none⟩, ⟨(some 108), .move (.t 15), none⟩, ⟨(some 109), .iaddr 1 (.t 107) (.t 108), none⟩, ⟨none, .store 1 (.t 109) (.c (.int .i64 (.negSucc 0))), none⟩])
  (.seq (.reg [⟨(some 110), .move (.t 16), none⟩, ⟨(some 111), .bin .geq (.t 110) (.c (.int .i64 (.ofNat 0))), none⟩])
  (.cond (.t 111) (.reg [⟨(some 112), .move (.t 14), none⟩, ⟨(some 113), .move (.t 15), none⟩, ⟨(some 114), .move (.t 13), none⟩, ⟨(some 115), .move (.t 6), none⟩, ⟨(some 116), .move (.t 16), none⟩, ⟨(some 117), .iaddr 1 (.t 115) (.t 116), none⟩, ⟨(some 118), .load (.t 117), none⟩, ⟨(some 119), .iaddr 1 (.t 114) (.t 118), none⟩, ⟨(some 120), .load (.t 119), none⟩, ⟨(some 121), .iaddr 1 (.t 112) (.t 113), none⟩, ⟨none, .store 1 (.t 121) (.t 120), none⟩]) .skip)))))
  (.reg [⟨(some 122), .bin .add (.t 102) (.c (.int .i64 (.ofNat 1))), none⟩, ⟨(some 102), .move (.t 122), none⟩])))))))
  (.seq (.reg [⟨(some 123), .loadN 4 (.t 12), none⟩, ⟨(some 124), .move (.t 14), none⟩, ⟨none, .store 4 (.t 2) (.t 123), none⟩, ⟨(some 3), .move (.t 124), none⟩])
  .ret)))))))))))⟩
theorem c102_ok : cFunc Go.Proofs.Try.prog Go.Proofs.Try.f102 = some c102 := by kernel_rfl
/-- semigroup/semigroupref08.Classes -/
def c110 : CFunc := ⟨64, [.tmp 2], (.seq (.reg [⟨(some 1), .box 32 (.t 0), none⟩, ⟨(some 2), .move (.c (.slice none 0 0)), none⟩])
  (.seq (.reg [⟨(some 9), .faddr 2 (.t 1), none⟩, ⟨(some 10), .load (.t 9), none⟩, ⟨(some 11), .lenSl (.t 10), none⟩, ⟨(some 12), .mkSlice 3 8 1 [(.int .i64 (.ofNat 0))] (.t 11) (.t 11), none⟩, ⟨(some 3), .move (.t 12), none⟩])
  (.seq (.seq (.reg [⟨(some 13), .move (.t 3), none⟩, ⟨(some 14), .lenSl (.t 13), none⟩, ⟨(some 15), .move (.c (.int .i64 (.ofNat 0))), none⟩])
  (.block 0 (.loop (.seq (.reg [⟨(some 16), .bin .lss (.t 15) (.t 14), none⟩])
  (.seq (.cond (.t 16) .skip (.exit 0))
  (.seq (.block 1 (.seq (.reg [⟨(some 17), .move (.t 15), none⟩, ⟨(some 4), .move (.t 17), none⟩])
  (.seq (.reg [⟨(some 18), .faddr 2 (.t 1), none⟩, ⟨(some 19), .load (.t 18), none⟩, ⟨(some 20), .move (.t 4), none⟩, ⟨(some 21), .iaddr 1 (.t 19) (.t 20), none⟩, ⟨(some 22), .load (.t 21), none⟩])
  (.cond (.t 22) (.reg [⟨(some 23), .move (.t 3), none⟩, ⟨(some 24), .move (.t 4), none⟩, ⟨(some 25), .iaddr 1 (.t 23) (.t 24), none⟩, ⟨none, .store 1 (.t 25) (.c (.int .i64 (.ofNat 1))), none⟩]) .skip))))
  (.reg [⟨(some 26), .bin .add (.t 15) (.c (.int .i64 (.ofNat 1))), none⟩, ⟨(some 15), .move (.t 26), none⟩])))))))
  (.seq (.reg [⟨(some 27), .move (.t 3), none⟩, ⟨(some 28), .call 126 [(.t 27)], none⟩, ⟨(some 3), .move (.t 28), none⟩])
  (.block 2 (.loop (.block 3 (.seq (.reg [⟨(some 29), .move (.t 3), none⟩, ⟨(some 5), .move (.t 29), none⟩])
  (.seq (.seq (.reg [⟨(some 6), .move (.c (.int .i64 (.ofNat 0))), none⟩])
  (.block 4 (.loop (.seq (.seq (.reg [⟨(some 30), .move (.t 6), none⟩, ⟨(some 31), .faddr 0 (.t 1), none⟩, ⟨(some 32), .load (.t 31), none⟩, ⟨(some 33), .bin .lss (.t 30) (.t 32), none⟩])
  (.cond (.t 33) .skip (.exit 4)))
  (.seq (.block 5 (.seq (.reg [⟨(some 7), .move (.c (.slice none 0 0)), none⟩])
  (.seq (.seq (.reg [⟨(some 36), .move (.t 3), none⟩, ⟨(some 37), .lenSl (.t 36), none⟩, ⟨(some 38), .move (.c (.int .i64 (.ofNat 0))), none⟩])
  (.block 6 (.loop (.seq (.reg [⟨(some 39), .bin .lss (.t 38) (.t 37), none⟩])
  (.seq (.cond (.t 39) .skip (.exit 6))
  (.seq (.block 7 (.seq (.reg [⟨(some 40), .move (.t 38), none⟩, ⟨(some 8), .move (.t 40), none⟩])
  (.reg [⟨(some 41), .move (.t 7), none⟩, ⟨(some 42), .move (.t 3), none⟩, ⟨(some 43), .faddr 3 (.t 1), none⟩, ⟨(some 44), .load (.t 43), none⟩, ⟨(some 45), .move (.t 8), none⟩, ⟨(some 46), .iaddr 1 (.t 44) (.t 45), none⟩, ⟨(some 47), .load (.t 46), none⟩, ⟨(some 48), .move (.t 6), none⟩, ⟨(some 49), .iaddr 1 (.t 47) (.t 48), none⟩, ⟨(some 50), .load (.t 49), none⟩, ⟨(some 51), .iaddr 1 (.t 42) (.t 50), none⟩, ⟨(some 52), .load (.t 51), none⟩, ⟨(some 53), .buildSlice 3 1 1 [(.int .i64 (.ofNat 0))] [(0, (.t 52))], none⟩, ⟨(some 54), .append 3 1 8 (.t 41) (.t 53), none⟩, ⟨(some 7), .move (.t 54), none⟩])))
  (.reg [⟨(some 55), .bin .add (.t 38) (.c (.int .i64 (.ofNat 1))), none⟩, ⟨(some 38), .move (.t 55), none⟩])))))))
  (.reg [⟨(some 56), .move (.t 5), none⟩, ⟨(some 57), .move (.t 7), none⟩, ⟨(some 58), .call 127 [(.t 56), (.t 57)], none⟩, ⟨(some 5), .move (.t 58), none⟩]))))
  (.reg [⟨(some 34), .move (.t 6), none⟩, ⟨(some 35), .bin .add (.t 34) (.c (.int .i64 (.ofNat 1))), none⟩, ⟨(some 6), .move (.t 35), none⟩]))))))
  (.seq (.seq (.reg [⟨(some 59), .move (.t 5), none⟩, ⟨(some 60), .move (.t 3), none⟩, ⟨(some 61), .call 79 [(.t 59), (.t 60)], none⟩])
  (.cond (.t 61) (.seq (.reg [⟨(some 62), .move (.t 3), none⟩, ⟨(some 2), .move (.t 62), none⟩])
  .ret) .skip))
  (.reg [⟨(some 63), .move (.t 5), none⟩, ⟨(some 3), .move (.t 63), none⟩])))))))))))⟩
theorem c110_ok : cFunc Go.Proofs.Try.prog Go.Proofs.Try.f110 = some c110 := by kernel_rfl
/-- semigroup/semigroupref07.Trim -/
def c111 : CFunc := ⟨92, [.cells 4 2, .tmp 3], (.seq (.reg [⟨(some 1), .box 32 (.t 0), none⟩, ⟨(some 2), .alloc 32 [(.int .i64 (.ofNat 0)), (.int .i64 (.ofNat 0)), (.slice none 0 0), (.slice none 0 0)], none⟩, ⟨(some 3), .move (.c (.slice none 0 0)), none⟩])
  (.seq (.reg [⟨(some 17), .loadN 4 (.t 1), none⟩, ⟨(some 18), .call 128 [(.t 17)], none⟩, ⟨(some 16), .move (.t 18), none⟩, ⟨(some 19), .extract 0 (.t 16), none⟩, ⟨(some 20), .extract 1 (.t 16), none⟩, ⟨(some 4), .move (.t 19), none⟩, ⟨(some 5), .move (.t 20), none⟩])
  (.seq (.reg [⟨(some 21), .faddr 2 (.t 1), none⟩, ⟨(some 22), .load (.t 21), none⟩, ⟨(some 23), .lenSl (.t 22), none⟩, ⟨(some 24), .mkSlice 3 8 1 [(.int .i64 (.ofNat 0))] (.t 23) (.t 23), none⟩, ⟨(some 6), .move (.t 24), none⟩])
  (.seq (.seq (.reg [⟨(some 25), .move (.t 6), none⟩, ⟨(some 26), .lenSl (.t 25), none⟩, ⟨(some 27), .move (.c (.int .i64 (.ofNat 0))), none⟩])
  (.block 0 (.loop (.seq (.reg [⟨(some 28), .bin .lss (.t 27) (.t 26), none⟩])
  (.seq (.cond (.t 28) .skip (.exit 0))
  (.seq (.block 1 (.seq (.reg [⟨(some 29), .move (.t 27), none⟩, ⟨(some 7), .move (.t 29), none⟩])
  (.reg [⟨(some 30), .move (.t 6), none⟩, ⟨(some 31), .move (.t 7), none⟩, ⟨(some 32), .iaddr 1 (.t 30) (.t 31), none⟩, ⟨none, .store 1 (.t 32) (.c (.int .i64 (.negSucc 0))), none⟩])))
  (.reg [⟨(some 33), .bin .add (.t 27) (.c (.int .i64 (.ofNat 1))), none⟩, ⟨(some 27), .move (.t 33), none⟩])))))))
  (.seq (.seq (.reg [⟨(some 34), .move (.t 4), none⟩, ⟨(some 35), .lenSl (.t 34), none⟩, ⟨(some 36), .move (.c (.int .i64 (.ofNat 0))), none⟩])
  (.block 2 (.loop (.seq (.reg [⟨(some 37), .bin .lss (.t 36) (.t 35), none⟩])
  (.seq (.cond (.t 37) .skip (.exit 2))
  (.seq (.block 3 (.seq (.reg [⟨(some 38), .move (.t 36), none⟩, ⟨(some 39), .iaddr 1 (.t 34) (.t 36), none⟩, ⟨(some 40), .load (.t 39), none⟩, ⟨(some 8), .move (.t 38), none⟩, ⟨(some 9), .move (.t 40), none⟩])
  (.reg [⟨(some 41), .move (.t 6), none⟩, ⟨(some 42), .move (.t 9), none⟩, ⟨(some 43), .move (.t 8), none⟩, ⟨(some 44), .iaddr 1 (.t 41) (.t 42), none⟩, ⟨none, .store 1 (.t 44) (.t 43), none⟩])))
  (.reg [⟨(some 45), .bin .add (.t 36) (.c (.int .i64 (.ofNat 1))), none⟩, ⟨(some 36), .move (.t 45), none⟩])))))))
  (.seq (.reg [⟨(some 46), .faddr 0 (.t 1), none⟩, ⟨(some 47), .load (.t 46), none⟩, ⟨(some 48), .build [(.int .i64 (.ofNat 0)), (.int .i64 (.ofNat 0)), (.slice none 0 0), (.slice none 0 0)] [(0, 1, (.t 47))], none⟩, ⟨(some 10), .alloc 32 [(.int .i64 (.ofNat 0)), (.int .i64 (.ofNat 0)), (.slice none 0 0), (.slice none 0 0)], none⟩, ⟨none, .store 4 (.t 10) (.t 48), none⟩])
  (.seq (.seq (.reg [⟨(some 49), .move (.t 4), none⟩, ⟨(some 50), .lenSl (.t 49), none⟩, ⟨(some 51), .move (.c (.int .i64 (.ofNat 0))), none⟩])
  (.block 4 (.loop (.seq (.reg [⟨(some 52), .bin .lss (.t 51) (.t 50), none⟩])
  (.seq (.cond (.t 52) .skip (.exit 4))
  (.seq (.block 5 (.seq (.reg [⟨(some 53), .iaddr 1 (.t 49) (.t 51), none⟩, ⟨(some 54), .load (.t 53), none⟩, ⟨(some 12), .move (.t 54), none⟩])
  (.seq (.reg [⟨(some 13), .move (.c (.slice none 0 0)), none⟩])
  (.seq (.seq (.reg [⟨(some 55), .faddr 3 (.t 1), none⟩, ⟨(some 56), .load (.t 55), none⟩, ⟨(some 57), .move (.t 12), none⟩, ⟨(some 58), .iaddr 1 (.t 56) (.t 57), none⟩, ⟨(some 59), .load (.t 58), none⟩, ⟨(some 60), .lenSl (.t 59), none⟩, ⟨(some 61), .move (.c (.int .i64 (.ofNat 0))), none⟩])
  (.block 6 (.loop (.seq (.reg [⟨(some 62), .bin .lss (.t 61) (.t 60), none⟩])
  (.seq (.cond (.t 62) .skip (.exit 6))
  (.seq (.block 7 (.seq (.reg [⟨(some 63), .iaddr 1 (.t 59) (.t 61), none⟩, ⟨(some 64), .load (.t 63), none⟩, ⟨(some 15), .move (.t 64), none⟩])
  (.reg [⟨(some 65), .move (.t 13), none⟩, ⟨(some 66), .move (.t 6), none⟩, ⟨(some 67), .move (.t 15), none⟩, ⟨(some 68), .iaddr 1 (.t 66) (.t 67), none⟩, ⟨(some 69), .load (.t 68), none⟩, ⟨(some 70), .buildSlice 3 1 1 [(.int .i64 (.ofNat 0))] [(0, (.t 69))], none⟩, ⟨(some 71), .append 3 1 8 (.t 65) (.t 70), none⟩, ⟨(some 13), .move (.t 71), none⟩])))
  (.reg [⟨(some 72), .bin .add (.t 61) (.c (.int .i64 (.ofNat 1))), none⟩, ⟨(some 61), .move (.t 72), none⟩])))))))
  (.draw [(⟨(some 73), .faddr 3 (.t 10), none⟩, 0), (⟨(some 74), .load (.t 73), none⟩, 0), (⟨(some 75), .move (.t 13), none⟩, 0), (⟨(some 76), .buildSlice 22 1 1 [(.slice none 0 0)] [(0, (.t 75))], none⟩, 0), (⟨(some 78), .faddr 2 (.t 10), none⟩, 1), (⟨(some 79), .load (.t 78), none⟩, 1), (⟨(some 80), .faddr 2 (.t 1), none⟩, 1), (⟨(some 81), .load (.t 80), none⟩, 1), (⟨(some 82), .move (.t 12), none⟩, 1), (⟨(some 83), .iaddr 1 (.t 81) (.t 82), none⟩, 1), (⟨(some 84), .load (.t 83), none⟩, 1), (⟨(some 85), .buildSlice 4 1 1 [(.bool false)] [(0, (.t 84))], none⟩, 1), (⟨(some 77), .append 22 1 24 (.t 74) (.t 76), none⟩, 1), (⟨(some 87), .faddr 3 (.t 10), none⟩, 2), (⟨(some 86), .append 4 1 1 (.t 79) (.t 85), none⟩, 2), (⟨none, .store 1 (.t 87) (.t 77), none⟩, 3), (⟨(some 88), .faddr 2 (.t 10), none⟩, 3), (⟨none, .store 1 (.t 88) (.t 86), none⟩, 4)])))))
  (.reg [⟨(some 89), .bin .add (.t 51) (.c (.int .i64 (.ofNat 1))), none⟩, ⟨(some 51), .move (.t 89), none⟩])))))))
  (.seq (.reg [⟨(some 90), .loadN 4 (.t 10), none⟩, ⟨(some 91), .move (.t 6), none⟩, ⟨none, .store 4 (.t 2) (.t 90), none⟩, ⟨(some 3), .move (.t 91), none⟩])
  .ret))))))))⟩
theorem c111_ok : cFunc Go.Proofs.Try.prog Go.Proofs.Try.f111 = some c111 := by kernel_rfl
/-- semigroup/semigroupref12.Build -/
def c112 : CFunc := ⟨22, [.cells 9 4, .tmp 5], (.seq (.reg [⟨(some 4), .alloc 163 [(.int .i64 (.ofNat 0)), (.bool false), (.slice none 0 0), (.slice none 0 0), (.slice none 0 0), (.slice none 0 0), (.slice none 0 0), (.slice none 0 0), (.int .i64 (.ofNat 0))], none⟩, ⟨(some 5), .move (.c (.int .i64 (.ofNat 0))), none⟩])
  (.seq (.reg [⟨(some 9), .move (.t 0), none⟩, ⟨(some 10), .move (.t 1), none⟩, ⟨(some 11), .call 129 [(.t 9), (.t 10)], none⟩, ⟨(some 8), .move (.t 11), none⟩, ⟨(some 12), .extract 0 (.t 8), none⟩, ⟨(some 13), .extract 1 (.t 8), none⟩, ⟨(some 6), .alloc 163 [(.int .i64 (.ofNat 0)), (.bool false), (.slice none 0 0), (.slice none 0 0), (.slice none 0 0), (.slice none 0 0), (.slice none 0 0), (.slice none 0 0), (.int .i64 (.ofNat 0))], none⟩, ⟨none, .store 9 (.t 6) (.t 12), none⟩, ⟨(some 7), .move (.t 13), none⟩])
  (.seq (.seq (.reg [⟨(some 14), .move (.t 7), none⟩, ⟨(some 15), .bin .neq (.t 14) (.c (.int .i64 (.ofNat 0))), none⟩])
  (.cond (.t 15) (.seq (.reg [⟨(some 16), .build [(.int .i64 (.ofNat 0)), (.bool false), (.slice none 0 0), (.slice none 0 0), (.slice none 0 0), (.slice none 0 0), (.slice none 0 0), (.slice none 0 0), (.int .i64 (.ofNat 0))] [], none⟩, ⟨(some 17), .move (.t 7), none⟩, ⟨none, .store 9 (.t 4) (.t 16), none⟩, ⟨(some 5), .move (.t 17), none⟩])
  .ret) .skip))
  (.seq (.reg [⟨(some 18), .loadN 9 (.t 6), none⟩, ⟨(some 19), .call 130 [(.t 18), (.c (.int .i64 (.ofNat 2001)))], none⟩, ⟨(some 20), .extract 0 (.t 19), none⟩, ⟨(some 21), .extract 1 (.t 19), none⟩, ⟨none, .store 9 (.t 4) (.t 20), none⟩, ⟨(some 5), .move (.t 21), none⟩])
  .ret))))⟩
theorem c112_ok : cFunc Go.Proofs.Try.prog Go.Proofs.Try.f112 = some c112 := by kernel_rfl
/-- semigroup/semigroupref12.Table -/
def c113 : CFunc := ⟨55, [.tmp 2], (.seq (.reg [⟨(some 1), .box 163 (.t 0), none⟩, ⟨(some 2), .move (.c (.slice none 0 0)), none⟩])
  (.seq (.reg [⟨(some 3), .move (.c (.slice none 0 0)), none⟩])
  (.seq (.seq (.reg [⟨(some 10), .faddr 3 (.t 1), none⟩, ⟨(some 11), .load (.t 10), none⟩, ⟨(some 12), .lenSl (.t 11), none⟩, ⟨(some 13), .move (.c (.int .i64 (.ofNat 0))), none⟩])
  (.block 0 (.loop (.seq (.reg [⟨(some 14), .bin .lss (.t 13) (.t 12), none⟩])
  (.seq (.cond (.t 14) .skip (.exit 0))
  (.seq (.block 1 (.seq (.reg [⟨(some 15), .move (.t 13), none⟩, ⟨(some 4), .move (.t 15), none⟩])
  (.seq (.reg [⟨(some 5), .move (.c (.slice none 0 0)), none⟩])
  (.seq (.seq (.reg [⟨(some 16), .faddr 3 (.t 1), none⟩, ⟨(some 17), .load (.t 16), none⟩, ⟨(some 18), .lenSl (.t 17), none⟩, ⟨(some 19), .move (.c (.int .i64 (.ofNat 0))), none⟩])
  (.block 2 (.loop (.seq (.reg [⟨(some 20), .bin .lss (.t 19) (.t 18), none⟩])
  (.seq (.cond (.t 20) .skip (.exit 2))
  (.seq (.block 3 (.seq (.reg [⟨(some 21), .move (.t 19), none⟩, ⟨(some 6), .move (.t 21), none⟩])
  (.seq (.reg [⟨(some 22), .loadN 9 (.t 1), none⟩, ⟨(some 23), .move (.t 6), none⟩, ⟨(some 24), .call 114 [(.t 22), (.t 23)], none⟩, ⟨(some 7), .move (.t 24), none⟩])
  (.seq (.reg [⟨(some 25), .move (.t 4), none⟩, ⟨(some 8), .move (.t 25), none⟩])
  (.seq (.seq (.reg [⟨(some 9), .move (.c (.int .i64 (.ofNat 0))), none⟩])
  (.block 4 (.loop (.seq (.seq (.reg [⟨(some 26), .move (.t 9), none⟩, ⟨(some 27), .move (.t 7), none⟩, ⟨(some 28), .lenStr (.t 27), none⟩, ⟨(some 29), .bin .lss (.t 26) (.t 28), none⟩])
  (.cond (.t 29) .skip (.exit 4)))
  (.seq (.block 5 (.draw [(⟨(some 32), .faddr 6 (.t 1), none⟩, 0), (⟨(some 33), .load (.t 32), none⟩, 0), (⟨(some 34), .move (.t 8), none⟩, 0), (⟨(some 35), .iaddr 1 (.t 33) (.t 34), none⟩, 0), (⟨(some 36), .load (.t 35), none⟩, 0), (⟨(some 37), .move (.t 7), none⟩, 0), (⟨(some 38), .move (.t 9), none⟩, 0), (⟨(some 39), .idxStr (.t 37) (.t 38), none⟩, 0), (⟨(some 40), .bin .sub (.t 39) (.c (.int .u8 (.ofNat 97))), none⟩, 0), (⟨(some 41), .conv .i64 (.t 40), none⟩, 0), (⟨(some 42), .iaddr 1 (.t 36) (.t 41), none⟩, 0), (⟨(some 43), .load (.t 42), none⟩, 0), (⟨(some 8), .move (.t 43), none⟩, 0)]))
  (.reg [⟨(some 30), .move (.t 9), none⟩, ⟨(some 31), .bin .add (.t 30) (.c (.int .i64 (.ofNat 1))), none⟩, ⟨(some 9), .move (.t 31), none⟩]))))))
  (.reg [⟨(some 44), .move (.t 5), none⟩, ⟨(some 45), .move (.t 8), none⟩, ⟨(some 46), .buildSlice 3 1 1 [(.int .i64 (.ofNat 0))] [(0, (.t 45))], none⟩, ⟨(some 47), .append 3 1 8 (.t 44) (.t 46), none⟩, ⟨(some 5), .move (.t 47), none⟩]))))))
  (.reg [⟨(some 48), .bin .add (.t 19) (.c (.int .i64 (.ofNat 1))), none⟩, ⟨(some 19), .move (.t 48), none⟩])))))))
  (.reg [⟨(some 49), .move (.t 3), none⟩, ⟨(some 50), .move (.t 5), none⟩, ⟨(some 51), .buildSlice 22 1 1 [(.slice none 0 0)] [(0, (.t 50))], none⟩, ⟨(some 52), .append 22 1 24 (.t 49) (.t 51), none⟩, ⟨(some 3), .move (.t 52), none⟩])))))
  (.reg [⟨(some 53), .bin .add (.t 13) (.c (.int .i64 (.ofNat 1))), none⟩, ⟨(some 13), .move (.t 53), none⟩])))))))
  (.seq (.reg [⟨(some 54), .move (.t 3), none⟩, ⟨(some 2), .move (.t 54), none⟩])
  .ret))))⟩
theorem c113_ok : cFunc Go.Proofs.Try.prog Go.Proofs.Try.f113 = some c113 := by kernel_rfl
/-- semigroup/semigroupref12.Word -/
def c114 : CFunc := ⟨30, [.tmp 4], (.seq (.reg [⟨(some 2), .box 163 (.t 0), none⟩, ⟨(some 4), .move (.c (.string ⟨⟨[]⟩⟩)), none⟩])
  (.seq (.reg [⟨(some 5), .move (.c (.string ⟨⟨[]⟩⟩)), none⟩])
  (.seq (.block 0 (.loop (.seq (.seq (.reg [⟨(some 6), .move (.t 1), none⟩, ⟨(some 7), .bin .geq (.t 6) (.c (.int .i64 (.ofNat 0))), none⟩, ⟨(some 8), .move (.t 7), none⟩, ⟨(some 9), .faddr 5 (.t 2), (some (8, true))⟩, ⟨(some 10), .load (.t 9), (some (8, true))⟩, ⟨(some 11), .move (.t 1), (some (8, true))⟩, ⟨(some 12), .iaddr 1 (.t 10) (.t 11), (some (8, true))⟩, ⟨(some 13), .load (.t 12), (some (8, true))⟩, ⟨(some 14), .bin .geq (.t 13) (.c (.int .i64 (.ofNat 0))), (some (8, true))⟩, ⟨(some 15), .pick (.t 8) (.t 14) (.c (.bool false)), none⟩])
  (.cond (.t 15) .skip (.exit 0)))
  (.block 1 (.seq (.reg [⟨(some 16), .faddr 5 (.t 2), none⟩, ⟨(some 17), .load (.t 16), none⟩, ⟨(some 18), .move (.t 1), none⟩, ⟨(some 19), .iaddr 1 (.t 17) (.t 18), none⟩, ⟨(some 20), .load (.t 19), none⟩, ⟨(some 21), .call 131 [(.t 20)], none⟩, ⟨(some 22), .move (.t 5), none⟩, ⟨(some 23), .bin .add (.t 21) (.t 22), none⟩, ⟨(some 5), .move (.t 23), none⟩])
  (.reg [⟨(some 24), .faddr 4 (.t 2), none⟩, ⟨(some 25), .load (.t 24), none⟩, ⟨(some 26), .move (.t 1), none⟩, ⟨(some 27), .iaddr 1 (.t 25) (.t 26), none⟩, ⟨(some 28), .load (.t 27), none⟩, ⟨(some 1), .move (.t 28), none⟩]))))))
  (.seq (.reg [⟨(some 29), .move (.t 5), none⟩, ⟨(some 4), .move (.t 29), none⟩])
  .ret))))⟩
theorem c114_ok : cFunc Go.Proofs.Try.prog Go.Proofs.Try.f114 = some c114 := by kernel_rfl
/-- semigroup/semigroupref12.Find -/
def c115 : CFunc := ⟨19, [.tmp 4], (.seq (.reg [⟨(some 4), .move (.c (.int .i64 (.ofNat 0))), none⟩])
  (.seq (.seq (.reg [⟨(some 6), .move (.t 0), none⟩, ⟨(some 7), .lenSl (.t 6), none⟩, ⟨(some 8), .move (.c (.int .i64 (.ofNat 0))), none⟩])
  (.block 0 (.loop (.seq (.reg [⟨(some 9), .bin .lss (.t 8) (.t 7), none⟩])
  (.seq (.cond (.t 9) .skip (.exit 0))
  (.seq (.block 1 (.seq (.reg [⟨(some 10), .move (.t 8), none⟩, ⟨(some 5), .move (.t 10), none⟩])
  (.seq (.reg [⟨(some 11), .move (.t 0), none⟩, ⟨(some 12), .move (.t 5), none⟩, ⟨(some 13), .iaddr 1 (.t 11) (.t 12), none⟩, ⟨(some 14), .load (.t 13), none⟩, ⟨(some 15), .move (.t 1), none⟩, ⟨(some 16), .call 79 [(.t 14), (.t 15)], none⟩])
  (.cond (.t 16) (.seq (.reg [⟨(some 17), .move (.t 5), none⟩, ⟨(some 4), .move (.t 17), none⟩])
  .ret) .skip))))
  (.reg [⟨(some 18), .bin .add (.t 8) (.c (.int .i64 (.ofNat 1))), none⟩, ⟨(some 8), .move (.t 18), none⟩])))))))
  (.seq (.reg [⟨(some 4), .move (.c (.int .i64 (.negSucc 0))), none⟩])
  .ret)))⟩
theorem c115_ok : cFunc Go.Proofs.Try.prog Go.Proofs.Try.f115 = some c115 := by kernel_rfl
/-- semigroup/semigroupref14.Generated -/
def c116 : CFunc := ⟨60, [.tmp 4], (.seq (.reg [⟨(some 4), .move (.c (.slice none 0 0)), none⟩])
  (.seq (.reg [⟨(some 9), .move (.t 1), none⟩, ⟨(some 10), .move (.t 0), none⟩, ⟨(some 11), .lenSl (.t 10), none⟩, ⟨(some 12), .call 132 [(.t 9), (.t 11)], none⟩, ⟨(some 5), .move (.t 12), none⟩])
  (.seq (.seq (.reg [⟨(some 6), .move (.c (.bool true)), none⟩])
  (.block 0 (.loop (.seq (.seq (.reg [⟨(some 13), .move (.t 6), none⟩])
  (.cond (.t 13) .skip (.exit 0)))
  (.block 1 (.seq (.reg [⟨(some 6), .move (.c (.bool false)), none⟩])
  (.seq (.reg [⟨(some 14), .move (.t 0), none⟩, ⟨(some 15), .lenSl (.t 14), none⟩, ⟨(some 16), .move (.c (.int .i64 (.ofNat 0))), none⟩])
  (.block 2 (.loop (.seq (.reg [⟨(some 17), .bin .lss (.t 16) (.t 15), none⟩])
  (.seq (.cond (.t 17) .skip (.exit 2))
  (.seq (.block 3 (.seq (.reg [⟨(some 18), .move (.t 16), none⟩, ⟨(some 7), .move (.t 18), none⟩])
  (.seq (.reg [⟨(some 19), .move (.t 0), none⟩, ⟨(some 20), .lenSl (.t 19), none⟩, ⟨(some 21), .move (.c (.int .i64 (.ofNat 0))), none⟩])
  (.block 4 (.loop (.seq (.reg [⟨(some 22), .bin .lss (.t 21) (.t 20), none⟩])
  (.seq (.cond (.t 22) .skip (.exit 4))
  (.seq (.block 5 (.seq (.reg [⟨(some 23), .move (.t 21), none⟩, ⟨(some 8), .move (.t 23), none⟩])
  (.seq (.reg [⟨(some 24), .move (.t 5), none⟩, ⟨(some 25), .move (.t 7), none⟩, ⟨(some 26), .iaddr 1 (.t 24) (.t 25), none⟩, ⟨(some 27), .load (.t 26), none⟩, ⟨(some 28), .move (.t 27), none⟩, ⟨(some 29), .move (.t 5), (some (28, true))⟩, ⟨(some 30), .move (.t 8), (some (28, true))⟩, ⟨(some 31), .iaddr 1 (.t 29) (.t 30), (some (28, true))⟩, ⟨(some 32), .load (.t 31), (some (28, true))⟩, ⟨(some 33), .pick (.t 28) (.t 32) (.c (.bool false)), none⟩, ⟨(some 34), .move (.t 33), none⟩, ⟨(some 35), .move (.t 5), (some (34, true))⟩, ⟨(some 36), .move (.t 0), (some (34, true))⟩, ⟨(some 37), .move (.t 7), (some (34, true))⟩, ⟨(some 38), .iaddr 1 (.t 36) (.t 37), (some (34, true))⟩, ⟨(some 39), .load (.t 38), (some (34, true))⟩, ⟨(some 40), .move (.t 8), (some (34, true))⟩, ⟨(some 41), .iaddr 1 (.t 39) (.t 40), (some (34, true))⟩, ⟨(some 42), .load (.t 41), (some (34, true))⟩, ⟨(some 43), .iaddr 1 (.t 35) (.t 42), (some (34, true))⟩, ⟨(some 44), .load (.t 43), (some (34, true))⟩, ⟨(some 45), .not (.t 44), (some (34, true))⟩, ⟨(some 46), .pick (.t 34) (.t 45) (.c (.bool false)), none⟩])
  (.cond (.t 46) (.seq (.reg [⟨(some 47), .move (.t 5), none⟩, ⟨(some 48), .move (.t 0), none⟩, ⟨(some 49), .move (.t 7), none⟩, ⟨(some 50), .iaddr 1 (.t 48) (.t 49), none⟩, ⟨(some 51), .load (.t 50), none⟩, ⟨(some 52), .move (.t 8), none⟩, ⟨(some 53), .iaddr 1 (.t 51) (.t 52), none⟩, ⟨(some 54), .load (.t 53), none⟩, ⟨(some 55), .iaddr 1 (.t 47) (.t 54), none⟩, ⟨none, .store 1 (.t 55) (.c (.bool true)), none⟩])
  (.reg [⟨(some 6), .move (.c (.bool true)), none⟩])) .skip))))
  (.reg [⟨(some 56), .bin .add (.t 21) (.c (.int .i64 (.ofNat 1))), none⟩, ⟨(some 21), .move (.t 56), none⟩])))))))))
  (.reg [⟨(some 57), .bin .add (.t 16) (.c (.int .i64 (.ofNat 1))), none⟩, ⟨(some 16), .move (.t 57), none⟩])))))))))))))
  (.seq (.reg [⟨(some 58), .move (.t 5), none⟩, ⟨(some 59), .call 133 [(.t 58)], none⟩, ⟨(some 4), .move (.t 59), none⟩])
  .ret))))⟩
theorem c116_ok : cFunc Go.Proofs.Try.prog Go.Proofs.Try.f116 = some c116 := by kernel_rfl
/-- semigroup/syntactic.valid -/
def c117 : CFunc := ⟨26, [.tmp 2], (.seq (.reg [⟨(some 1), .box 101 (.t 0), none⟩, ⟨(some 2), .move (.c (.bool false)), none⟩])
  (.seq (.reg [⟨(some 8), .loadN 6 (.t 1), none⟩, ⟨(some 9), .call 134 [(.t 8)], none⟩, ⟨(some 7), .move (.t 9), none⟩, ⟨(some 10), .extract 0 (.t 7), none⟩, ⟨(some 11), .extract 1 (.t 7), none⟩, ⟨(some 3), .alloc 32 [(.int .i64 (.ofNat 0)), (.int .i64 (.ofNat 0)), (.slice none 0 0), (.slice none 0 0)], none⟩, ⟨none, .store 4 (.t 3) (.t 10), none⟩, ⟨(some 4), .move (.t 11), none⟩])
  (.seq (.seq (.reg [⟨(some 12), .move (.t 4), none⟩, ⟨(some 13), .not (.t 12), none⟩])
  (.cond (.t 13) (.seq (.reg [⟨(some 2), .move (.c (.bool false)), none⟩])
  .ret) .skip))
  (.seq (.reg [⟨(some 15), .loadN 4 (.t 3), none⟩, ⟨(some 16), .call 135 [(.t 15)], none⟩, ⟨(some 14), .move (.t 16), none⟩, ⟨(some 17), .extract 0 (.t 14), none⟩, ⟨(some 18), .extract 1 (.t 14), none⟩, ⟨(some 5), .alloc 101 [(.int .i64 (.ofNat 0)), (.slice none 0 0), (.slice none 0 0), (.slice none 0 0), (.slice none 0 0), (.slice none 0 0)], none⟩, ⟨none, .store 6 (.t 5) (.t 17), none⟩, ⟨(some 6), .move (.t 18), none⟩])
  (.seq (.reg [⟨(some 19), .move (.t 6), none⟩, ⟨(some 20), .bin .eql (.t 19) (.c (.int .i64 (.ofNat 0))), none⟩, ⟨(some 21), .move (.t 20), none⟩, ⟨(some 22), .loadN 6 (.t 1), (some (21, true))⟩, ⟨(some 23), .loadN 6 (.t 5), (some (21, true))⟩, ⟨(some 24), .call 136 [(.t 22), (.t 23)], (some (21, true))⟩, ⟨(some 25), .pick (.t 21) (.t 24) (.c (.bool false)), none⟩, ⟨(some 2), .move (.t 25), none⟩])
  .ret)))))⟩
theorem c117_ok : cFunc Go.Proofs.Try.prog Go.Proofs.Try.f117 = some c117 := by kernel_rfl
/-- semigroup/mult.Validate -/
def c118 : CFunc := ⟨21, [.tmp 2], (.seq (.reg [⟨(some 2), .move (.c (.int .i64 (.ofNat 0))), none⟩])
  (.seq (.seq (.reg [⟨(some 8), .move (.t 0), none⟩, ⟨(some 9), .call 137 [(.t 8)], none⟩, ⟨(some 3), .move (.t 9), none⟩])
  (.seq (.reg [⟨(some 10), .move (.t 3), none⟩, ⟨(some 11), .bin .neq (.t 10) (.c (.int .i64 (.ofNat 0))), none⟩])
  (.cond (.t 11) (.seq (.reg [⟨(some 12), .move (.t 3), none⟩, ⟨(some 2), .move (.t 12), none⟩])
  .ret) .skip)))
  (.seq (.seq (.reg [⟨(some 14), .move (.t 0), none⟩, ⟨(some 15), .call 138 [(.t 14)], none⟩, ⟨(some 13), .move (.t 15), none⟩, ⟨(some 16), .extract 0 (.t 13), none⟩, ⟨(some 17), .extract 1 (.t 13), none⟩, ⟨(some 18), .extract 2 (.t 13), none⟩, ⟨(some 19), .extract 3 (.t 13), none⟩, ⟨(some 4), .move (.t 16), none⟩, ⟨(some 5), .move (.t 17), none⟩, ⟨(some 6), .move (.t 18), none⟩, ⟨(some 7), .move (.t 19), none⟩])
  (.seq (.reg [⟨(some 20), .move (.t 7), none⟩])
  (.cond (.t 20) (.seq (.reg [⟨(some 2), .move (.c (.int .i64 (.ofNat 5))), none⟩])
  .ret) .skip)))
  (.seq (.reg [⟨(some 2), .move (.c (.int .i64 (.ofNat 0))), none⟩])
  .ret))))⟩
theorem c118_ok : cFunc Go.Proofs.Try.prog Go.Proofs.Try.f118 = some c118 := by kernel_rfl
/-- semigroup/mult.center -/
def c119 : CFunc := ⟨43, [.tmp 2], (.seq (.reg [⟨(some 2), .move (.c (.slice none 0 0)), none⟩])
  (.seq (.reg [⟨(some 3), .move (.c (.slice none 0 0)), none⟩])
  (.seq (.seq (.reg [⟨(some 7), .move (.t 0), none⟩, ⟨(some 8), .lenSl (.t 7), none⟩, ⟨(some 9), .move (.c (.int .i64 (.ofNat 0))), none⟩])
  (.block 0 (.loop (.seq (.reg [⟨(some 10), .bin .lss (.t 9) (.t 8), none⟩])
  (.seq (.cond (.t 10) .skip (.exit 0))
  (.seq (.block 1 (.seq (.reg [⟨(some 11), .move (.t 9), none⟩, ⟨(some 4), .move (.t 11), none⟩])
  (.seq (.reg [⟨(some 5), .move (.c (.bool true)), none⟩])
  (.seq (.seq (.reg [⟨(some 12), .move (.t 0), none⟩, ⟨(some 13), .lenSl (.t 12), none⟩, ⟨(some 14), .move (.c (.int .i64 (.ofNat 0))), none⟩])
  (.block 2 (.loop (.seq (.reg [⟨(some 15), .bin .lss (.t 14) (.t 13), none⟩])
  (.seq (.cond (.t 15) .skip (.exit 2))
  (.seq (.block 3 (.seq (.reg [⟨(some 16), .move (.t 14), none⟩, ⟨(some 6), .move (.t 16), none⟩])
  (.draw [(⟨(some 17), .move (.t 5), none⟩, 0), (⟨(some 18), .move (.t 17), none⟩, 0), (⟨(some 19), .move (.t 0), (some (18, true))⟩, 0), (⟨(some 20), .move (.t 4), (some (18, true))⟩, 0), (⟨(some 21), .iaddr 1 (.t 19) (.t 20), (some (18, true))⟩, 0), (⟨(some 22), .load (.t 21), (some (18, true))⟩, 0), (⟨(some 23), .move (.t 6), (some (18, true))⟩, 0), (⟨(some 24), .iaddr 1 (.t 22) (.t 23), (some (18, true))⟩, 0), (⟨(some 25), .load (.t 24), (some (18, true))⟩, 0), (⟨(some 26), .move (.t 0), (some (18, true))⟩, 0), (⟨(some 27), .move (.t 6), (some (18, true))⟩, 0), (⟨(some 28), .iaddr 1 (.t 26) (.t 27), (some (18, true))⟩, 0), (⟨(some 29), .load (.t 28), (some (18, true))⟩, 0), (⟨(some 30), .move (.t 4), (some (18, true))⟩, 0), (⟨(some 31), .iaddr 1 (.t 29) (.t 30), (some (18, true))⟩, 0), (⟨(some 32), .load (.t 31), (some (18, true))⟩, 0), (⟨(some 33), .bin .eql (.t 25) (.t 32), (some (18, true))⟩, 0), (⟨(some 34), .pick (.t 18) (.t 33) (.c (.bool false)), none⟩, 0), (⟨(some 5), .move (.t 34), none⟩, 0)])))
  (.reg [⟨(some 35), .bin .add (.t 14) (.c (.int .i64 (.ofNat 1))), none⟩, ⟨(some 14), .move (.t 35), none⟩])))))))
  (.seq (.reg [⟨(some 36), .move (.t 5), none⟩])
  (.cond (.t 36) (.reg [⟨(some 37), .move (.t 3), none⟩, ⟨(some 38), .move (.t 4), none⟩, ⟨(some 39), .buildSlice 3 1 1 [(.int .i64 (.ofNat 0))] [(0, (.t 38))], none⟩, ⟨(some 40), .append 3 1 8 (.t 37) (.t 39), none⟩, ⟨(some 3), .move (.t 40), none⟩]) .skip))))))
  (.reg [⟨(some 41), .bin .add (.t 9) (.c (.int .i64 (.ofNat 1))), none⟩, ⟨(some 9), .move (.t 41), none⟩])))))))
  (.seq (.reg [⟨(some 42), .move (.t 3), none⟩, ⟨(some 2), .move (.t 42), none⟩])
  .ret))))⟩
theorem c119_ok : cFunc Go.Proofs.Try.prog Go.Proofs.Try.f119 = some c119 := by kernel_rfl
/-- semigroup/dfa.Trim -/
def c121 : CFunc := ⟨75, [.cells 4 2, .tmp 3], (.seq (.reg [⟨(some 1), .box 32 (.t 0), none⟩, ⟨(some 2), .alloc 32 [(.int .i64 (.ofNat 0)), (.int .i64 (.ofNat 0)), (.slice none 0 0), (.slice none 0 0)], none⟩, ⟨(some 3), .move (.c (.slice none 0 0)), none⟩])
  (.seq (.seq (.reg [⟨(some 13), .loadN 4 (.t 1), none⟩, ⟨(some 14), .call 75 [(.t 13)], none⟩, ⟨(some 15), .bin .neq (.t 14) (.c (.int .i64 (.ofNat 0))), none⟩])
  (.cond (.t 15) (.seq (.reg [⟨(some 16), .build [(.int .i64 (.ofNat 0)), (.int .i64 (.ofNat 0)), (.slice none 0 0), (.slice none 0 0)] [], none⟩, ⟨none, .store 4 (.t 2) (.t 16), none⟩, ⟨(some 3), .move (.c (.slice none 0 0)), none⟩])
  .ret) .skip))
  (.seq (.reg [⟨(some 18), .loadN 4 (.t 1), none⟩, ⟨(some 19), .call 139 [(.t 18)], none⟩, ⟨(some 17), .move (.t 19), none⟩, ⟨(some 20), .extract 0 (.t 17), none⟩, ⟨(some 21), .extract 1 (.t 17), none⟩, ⟨(some 22), .extract 2 (.t 17), none⟩, ⟨(some 23), .extract 3 (.t 17), none⟩, ⟨(some 4), .move (.t 20), none⟩, ⟨(some 5), .move (.t 21), none⟩, ⟨(some 6), .move (.t 22), none⟩, ⟨(some 7), .move (.t 23), none⟩])
  (.seq (.reg [⟨(some 24), .faddr 0 (.t 1), none⟩, ⟨(some 25), .load (.t 24), none⟩, ⟨(some 26), .build [(.int .i64 (.ofNat 0)), (.int .i64 (.ofNat 0)), (.slice none 0 0), (.slice none 0 0)] [(0, 1, (.t 25))], none⟩, ⟨(some 8), .alloc 32 [(.int .i64 (.ofNat 0)), (.int .i64 (.ofNat 0)), (.slice none 0 0), (.slice none 0 0)], none⟩, ⟨none, .store 4 (.t 8) (.t 26), none⟩])
  (.seq (.seq (.reg [⟨(some 27), .move (.t 4), none⟩, ⟨(some 28), .lenSl (.t 27), none⟩, ⟨(some 29), .move (.c (.int .i64 (.ofNat 0))), none⟩])
  (.block 0 (.loop (.seq (.reg [⟨(some 30), .bin .lss (.t 29) (.t 28), none⟩])
  (.seq (.cond (.t 30) .skip (.exit 0))
  (.seq (.block 1 (.seq (.reg [⟨(some 31), .iaddr 1 (.t 27) (.t 29), none⟩, ⟨(some 32), .load (.t 31), none⟩, ⟨(some 10), .move (.t 32), none⟩])
  (.seq (.reg [⟨(some 33), .faddr 0 (.t 1), none⟩, ⟨(some 34), .load (.t 33), none⟩, ⟨(some 35), .mkSlice 3 8 1 [(.int .i64 (.ofNat 0))] (.t 34) (.t 34), none⟩, ⟨(some 11), .move (.t 35), none⟩])
  (.seq (.seq (.reg [⟨(some 36), .move (.t 11), none⟩, ⟨(some 37), .lenSl (.t 36), none⟩, ⟨(some 38), .move (.c (.int .i64 (.ofNat 0))), none⟩])
  (.block 2 (.loop (.seq (.reg [⟨(some 39), .bin .lss (.t 38) (.t 37), none⟩])
  (.seq (.cond (.t 39) .skip (.exit 2))
  (.seq (.block 3 (.seq (.reg [⟨(some 40), .move (.t 38), none⟩, ⟨(some 12), .move (.t 40), none⟩])
  (.reg [⟨(some 41), .move (.t 11), none⟩, ⟨(some 42), .move (.t 12), none⟩, ⟨(some 43), .move (.t 7), none⟩, ⟨(some 44), .faddr 3 (.t 1), none⟩, ⟨(some 45), .load (.t 44), none⟩, ⟨(some 46), .move (.t 10), none⟩, ⟨(some 47), .iaddr 1 (.t 45) (.t 46), none⟩, ⟨(some 48), .load (.t 47), none⟩, ⟨(some 49), .move (.t 12), none⟩, ⟨(some 50), .iaddr 1 (.t 48) (.t 49), none⟩, ⟨(some 51), .load (.t 50), none⟩, ⟨(some 52), .iaddr 1 (.t 43) (.t 51), none⟩, ⟨(some 53), .load (.t 52), none⟩, ⟨(some 54), .iaddr 1 (.t 41) (.t 42), none⟩, ⟨none, .store 1 (.t 54) (.t 53), none⟩])))
  (.reg [⟨(some 55), .bin .add (.t 38) (.c (.int .i64 (.ofNat 1))), none⟩, ⟨(some 38), .move (.t 55), none⟩])))))))
  (.seq (.draw [(⟨(some 56), .faddr 2 (.t 8), none⟩, 0), (⟨(some 57), .load (.t 56), none⟩, 0), (⟨(some 58), .faddr 2 (.t 1), none⟩, 0), (⟨(some 59), .load (.t 58), none⟩, 0), (⟨(some 60), .move (.t 10), none⟩, 0), (⟨(some 61), .iaddr 1 (.t 59) (.t 60), none⟩, 0), (⟨(some 62), .load (.t 61), none⟩, 0), (⟨(some 63), .buildSlice 4 1 1 [(.bool false)] [(0, (.t 62))], none⟩, 0), (⟨(some 64), .append 4 1 1 (.t 57) (.t 63), none⟩, 1), (⟨(some 65), .faddr 2 (.t 8), none⟩, 1), (⟨none, .store 1 (.t 65) (.t 64), none⟩, 2)])
  (.reg [⟨(some 66), .faddr 3 (.t 8), none⟩, ⟨(some 67), .load (.t 66), none⟩, ⟨(some 68), .move (.t 11), none⟩, ⟨(some 69), .buildSlice 22 1 1 [(.slice none 0 0)] [(0, (.t 68))], none⟩, ⟨(some 70), .append 22 1 24 (.t 67) (.t 69), none⟩, ⟨(some 71), .faddr 3 (.t 8), none⟩, ⟨none, .store 1 (.t 71) (.t 70), none⟩]))))))
  (.reg [⟨(some 72), .bin .add (.t 29) (.c (.int .i64 (.ofNat 1))), none⟩, ⟨(some 29), .move (.t 72), none⟩])))))))
  (.seq (.reg [⟨(some 73), .loadN 4 (.t 8), none⟩, ⟨(some 74), .move (.t 7), none⟩, ⟨none, .store 4 (.t 2) (.t 73), none⟩, ⟨(some 3), .move (.t 74), none⟩])
  .ret))))))⟩
theorem c121_ok : cFunc Go.Proofs.Try.prog Go.Proofs.Try.f121 = some c121 := by kernel_rfl
/-- semigroup/minimize.classes -/
def c122 : CFunc := ⟨92, [.tmp 2], (.seq (.reg [⟨(some 1), .box 32 (.t 0), none⟩, ⟨(some 2), .move (.c (.slice none 0 0)), none⟩])
  (.seq (.reg [⟨(some 14), .faddr 2 (.t 1), none⟩, ⟨(some 15), .load (.t 14), none⟩, ⟨(some 16), .lenSl (.t 15), none⟩, ⟨(some 3), .move (.t 16), none⟩])
  (.seq (.reg [⟨(some 17), .move (.t 3), none⟩, ⟨(some 18), .mkSlice 3 8 1 [(.int .i64 (.ofNat 0))] (.t 17) (.t 17), none⟩, ⟨(some 4), .move (.t 18), none⟩])
  (.seq (.seq (.reg [⟨(some 19), .move (.t 4), none⟩, ⟨(some 20), .lenSl (.t 19), none⟩, ⟨(some 21), .move (.c (.int .i64 (.ofNat 0))), none⟩])
  (.block 0 (.loop (.seq (.reg [⟨(some 22), .bin .lss (.t 21) (.t 20), none⟩])
  (.seq (.cond (.t 22) .skip (.exit 0))
  (.seq (.block 1 (.seq (.reg [⟨(some 23), .move (.t 21), none⟩, ⟨(some 5), .move (.t 23), none⟩])
  (.seq (.reg [⟨(some 24), .faddr 2 (.t 1), none⟩, ⟨(some 25), .load (.t 24), none⟩, ⟨(some 26), .move (.t 5), none⟩, ⟨(some 27), .iaddr 1 (.t 25) (.t 26), none⟩, ⟨(some 28), .load (.t 27), none⟩])
  (.cond (.t 28) (.reg [⟨(some 29), .move (.t 4), none⟩, ⟨(some 30), .move (.t 5), none⟩, ⟨(some 31), .iaddr 1 (.t 29) (.t 30), none⟩, ⟨none, .store 1 (.t 31) (.c (.int .i64 (.ofNat 1))), none⟩]) .skip))))
  (.reg [⟨(some 32), .bin .add (.t 21) (.c (.int .i64 (.ofNat 1))), none⟩, ⟨(some 21), .move (.t 32), none⟩])))))))
  (.seq (.reg [⟨(some 33), .move (.t 4), none⟩, ⟨(some 34), .call 140 [(.t 33)], none⟩, ⟨(some 4), .move (.t 34), none⟩])
  (.block 2 (.loop (.block 3 (.seq (.reg [⟨(some 35), .mkMap, none⟩, ⟨(some 6), .move (.t 35), none⟩])
  (.seq (.reg [⟨(some 36), .move (.t 3), none⟩, ⟨(some 37), .mkSlice 3 8 1 [(.int .i64 (.ofNat 0))] (.t 36) (.t 36), none⟩, ⟨(some 7), .move (.t 37), none⟩])
  (.seq (.seq (.reg [⟨(some 38), .move (.t 7), none⟩, ⟨(some 39), .lenSl (.t 38), none⟩, ⟨(some 40), .move (.c (.int .i64 (.ofNat 0))), none⟩])
  (.block 4 (.loop (.seq (.reg [⟨(some 41), .bin .lss (.t 40) (.t 39), none⟩])
  (.seq (.cond (.t 41) .skip (.exit 4))
  (.seq (.block 5 (.seq (.reg [⟨(some 42), .move (.t 40), none⟩, ⟨(some 8), .move (.t 42), none⟩])
  (.seq (.reg [⟨(some 9), .alloc 192 [(.int .i64 (.ofNat 0)), (.int .i64 (.ofNat 0)), (.int .i64 (.ofNat 0)), (.int .i64 (.ofNat 0)), (.int .i64 (.ofNat 0)), (.int .i64 (.ofNat 0)), (.int .i64 (.ofNat 0))], none⟩])
  (.seq (.reg [⟨(some 43), .move (.t 4), none⟩, ⟨(some 44), .move (.t 8), none⟩, ⟨(some 45), .iaddr 1 (.t 43) (.t 44), none⟩, ⟨(some 46), .load (.t 45), none⟩, ⟨(some 47), .iaddrA 7 1 (.t 9) (.c (.int .i64 (.ofNat 0))), none⟩, ⟨none, .store 1 (.t 47) (.t 46), none⟩])
  (.seq (.seq (.reg [⟨(some 48), .faddr 3 (.t 1), none⟩, ⟨(some 49), .load (.t 48), none⟩, ⟨(some 50), .move (.t 8), none⟩, ⟨(some 51), .iaddr 1 (.t 49) (.t 50), none⟩, ⟨(some 52), .load (.t 51), none⟩, ⟨(some 53), .lenSl (.t 52), none⟩, ⟨(some 54), .move (.c (.int .i64 (.ofNat 0))), none⟩])
  (.block 6 (.loop (.seq (.reg [⟨(some 55), .bin .lss (.t 54) (.t 53), none⟩])
  (.seq (.cond (.t 55) .skip (.exit 6))
  (.seq (.block 7 (.seq (.reg [⟨(some 56), .move (.t 54), none⟩, ⟨(some 57), .iaddr 1 (.t 52) (.t 54), none⟩, ⟨(some 58), .load (.t 57), none⟩, ⟨(some 10), .move (.t 56), none⟩, ⟨(some 11), .move (.t 58), none⟩])
  (.reg [⟨(some 59), .move (.t 10), none⟩, ⟨(some 60), .bin .add (.t 59) (.c (.int .i64 (.ofNat 1))), none⟩, ⟨(some 61), .move (.t 4), none⟩, ⟨(some 62), .move (.t 11), none⟩, ⟨(some 63), .iaddr 1 (.t 61) (.t 62), none⟩, ⟨(some 64), .load (.t 63), none⟩, ⟨(some 65), .iaddrA 7 1 (.t 9) (.t 60), none⟩, ⟨none, .store 1 (.t 65) (.t 64), none⟩])))
  (.reg [⟨(some 66), .bin .add (.t 54) (.c (.int .i64 (.ofNat 1))), none⟩, ⟨(some 54), .move (.t 66), none⟩])))))))
  (.seq (.reg [⟨(some 68), .move (.t 6), none⟩, ⟨(some 69), .loadN 7 (.t 9), none⟩, ⟨(some 70), .lookup (.row [.int, .int, .int, .int, .int, .int, .int]) (.int .i64 (.ofNat 0)) true (.t 68) (.t 69), none⟩, ⟨(some 67), .move (.t 70), none⟩, ⟨(some 71), .extract 0 (.t 67), none⟩, ⟨(some 72), .extract 1 (.t 67), none⟩, ⟨(some 12), .move (.t 71), none⟩, ⟨(some 13), .move (.t 72), none⟩])
  (.seq (.seq (.reg [⟨(some 73), .move (.t 13), none⟩, ⟨(some 74), .not (.t 73), none⟩])
  (.cond (.t 74) (.seq (.reg [⟨(some 75), .move (.t 6), none⟩, ⟨(some 76), .lenMap (.t 75), none⟩, ⟨(some 12), .move (.t 76), none⟩])
  (.reg [⟨(some 77), .move (.t 6), none⟩, ⟨(some 78), .loadN 7 (.t 9), none⟩, ⟨(some 79), .move (.t 12), none⟩, ⟨none, .mapSet (.row [.int, .int, .int, .int, .int, .int, .int]) (.t 77) (.t 78) (.t 79), none⟩])) .skip))
  (.reg [⟨(some 80), .move (.t 7), none⟩, ⟨(some 81), .move (.t 8), none⟩, ⟨(some 82), .move (.t 12), none⟩, ⟨(some 83), .iaddr 1 (.t 80) (.t 81), none⟩, ⟨none, .store 1 (.t 83) (.t 82), none⟩]))))))))
  (.reg [⟨(some 84), .bin .add (.t 40) (.c (.int .i64 (.ofNat 1))), none⟩, ⟨(some 40), .move (.t 84), none⟩])))))))
  (.seq (.seq (.reg [⟨(some 85), .move (.t 6), none⟩, ⟨(some 86), .lenMap (.t 85), none⟩, ⟨(some 87), .move (.t 4), none⟩, ⟨(some 88), .call 123 [(.t 87)], none⟩, ⟨(some 89), .bin .eql (.t 86) (.t 88), none⟩])
  (.cond (.t 89) (.seq (.reg [⟨(some 90), .move (.t 4), none⟩, ⟨(some 2), .move (.t 90), none⟩])
  .ret) .skip))
  (.reg [⟨(some 91), .move (.t 7), none⟩, ⟨(some 4), .move (.t 91), none⟩])))))))))))))⟩
theorem c122_ok : cFunc Go.Proofs.Try.prog Go.Proofs.Try.f122 = some c122 := by kernel_rfl
/-- semigroup/partition.Count -/
def c123 : CFunc := ⟨21, [.tmp 2], (.seq (.reg [⟨(some 2), .move (.c (.int .i64 (.ofNat 0))), none⟩])
  (.seq (.seq (.reg [⟨(some 6), .move (.t 0), none⟩, ⟨(some 7), .call 141 [(.t 6)], none⟩, ⟨(some 8), .not (.t 7), none⟩])
  (.cond (.t 8) (.seq (.reg [⟨(some 2), .move (.c (.int .i64 (.ofNat 0))), none⟩])
  .ret) .skip))
  (.seq (.reg [⟨(some 3), .move (.c (.int .i64 (.ofNat 0))), none⟩])
  (.seq (.seq (.reg [⟨(some 9), .move (.t 0), none⟩, ⟨(some 10), .lenSl (.t 9), none⟩, ⟨(some 11), .move (.c (.int .i64 (.ofNat 0))), none⟩])
  (.block 0 (.loop (.seq (.reg [⟨(some 12), .bin .lss (.t 11) (.t 10), none⟩])
  (.seq (.cond (.t 12) .skip (.exit 0))
  (.seq (.block 1 (.seq (.reg [⟨(some 13), .iaddr 1 (.t 9) (.t 11), none⟩, ⟨(some 14), .load (.t 13), none⟩, ⟨(some 5), .move (.t 14), none⟩])
  (.reg [⟨(some 15), .move (.t 3), none⟩, ⟨(some 16), .move (.t 5), none⟩, ⟨(some 17), .bin .add (.t 16) (.c (.int .i64 (.ofNat 1))), none⟩, ⟨(some 18), .most false (.t 15) (.t 17), none⟩, ⟨(some 3), .move (.t 18), none⟩])))
  (.reg [⟨(some 19), .bin .add (.t 11) (.c (.int .i64 (.ofNat 1))), none⟩, ⟨(some 11), .move (.t 19), none⟩])))))))
  (.seq (.reg [⟨(some 20), .move (.t 3), none⟩, ⟨(some 2), .move (.t 20), none⟩])
  .ret)))))⟩
theorem c123_ok : cFunc Go.Proofs.Try.prog Go.Proofs.Try.f123 = some c123 := by kernel_rfl
/-- semigroup/semigroupref08.number -/
def c126 : CFunc := ⟨39, [.tmp 2], (.seq (.reg [⟨(some 2), .move (.c (.slice none 0 0)), none⟩])
  (.seq (.reg [⟨(some 9), .mkMap, none⟩, ⟨(some 3), .move (.t 9), none⟩])
  (.seq (.reg [⟨(some 10), .move (.t 0), none⟩, ⟨(some 11), .lenSl (.t 10), none⟩, ⟨(some 12), .mkSlice 3 8 1 [(.int .i64 (.ofNat 0))] (.t 11) (.t 11), none⟩, ⟨(some 4), .move (.t 12), none⟩])
  (.seq (.seq (.reg [⟨(some 13), .move (.t 0), none⟩, ⟨(some 14), .lenSl (.t 13), none⟩, ⟨(some 15), .move (.c (.int .i64 (.ofNat 0))), none⟩])
  (.block 0 (.loop (.seq (.reg [⟨(some 16), .bin .lss (.t 15) (.t 14), none⟩])
  (.seq (.cond (.t 16) .skip (.exit 0))
  (.seq (.block 1 (.seq (.reg [⟨(some 17), .move (.t 15), none⟩, ⟨(some 18), .iaddr 1 (.t 13) (.t 15), none⟩, ⟨(some 19), .load (.t 18), none⟩, ⟨(some 5), .move (.t 17), none⟩, ⟨(some 6), .move (.t 19), none⟩])
  (.seq (.reg [⟨(some 21), .move (.t 3), none⟩, ⟨(some 22), .move (.t 6), none⟩, ⟨(some 23), .lookup (.one .int) (.int .i64 (.ofNat 0)) true (.t 21) (.t 22), none⟩, ⟨(some 20), .move (.t 23), none⟩, ⟨(some 24), .extract 0 (.t 20), none⟩, ⟨(some 25), .extract 1 (.t 20), none⟩, ⟨(some 7), .move (.t 24), none⟩, ⟨(some 8), .move (.t 25), none⟩])
  (.seq (.seq (.reg [⟨(some 26), .move (.t 8), none⟩, ⟨(some 27), .not (.t 26), none⟩])
  (.cond (.t 27) (.seq (.reg [⟨(some 28), .move (.t 3), none⟩, ⟨(some 29), .lenMap (.t 28), none⟩, ⟨(some 7), .move (.t 29), none⟩])
  (.reg [⟨(some 30), .move (.t 3), none⟩, ⟨(some 31), .move (.t 6), none⟩, ⟨(some 32), .move (.t 7), none⟩, ⟨none, .mapSet (.one .int) (.t 30) (.t 31) (.t 32), none⟩])) .skip))
  (.reg [⟨(some 33), .move (.t 4), none⟩, ⟨(some 34), .move (.t 5), none⟩, ⟨(some 35), .move (.t 7), none⟩, ⟨(some 36), .iaddr 1 (.t 33) (.t 34), none⟩, ⟨none, .store 1 (.t 36) (.t 35), none⟩])))))
  (.reg [⟨(some 37), .bin .add (.t 15) (.c (.int .i64 (.ofNat 1))), none⟩, ⟨(some 15), .move (.t 37), none⟩])))))))
  (.seq (.reg [⟨(some 38), .move (.t 4), none⟩, ⟨(some 2), .move (.t 38), none⟩])
  .ret)))))⟩
theorem c126_ok : cFunc Go.Proofs.Try.prog Go.Proofs.Try.f126 = some c126 := by kernel_rfl
/-- semigroup/semigroupref08.both -/
def c127 : CFunc := ⟨34, [.tmp 4], (.seq (.reg [⟨(some 4), .move (.c (.slice none 0 0)), none⟩])
  (.seq (.reg [⟨(some 7), .move (.t 0), none⟩, ⟨(some 8), .lenSl (.t 7), none⟩, ⟨(some 9), .mkSlice 3 8 1 [(.int .i64 (.ofNat 0))] (.t 8) (.t 8), none⟩, ⟨(some 5), .move (.t 9), none⟩])
  (.seq (.seq (.reg [⟨(some 10), .move (.t 0), none⟩, ⟨(some 11), .lenSl (.t 10), none⟩, ⟨(some 12), .move (.c (.int .i64 (.ofNat 0))), none⟩])
  (.block 0 (.loop (.seq (.reg [⟨(some 13), .bin .lss (.t 12) (.t 11), none⟩])
  (.seq (.cond (.t 13) .skip (.exit 0))
  (.seq (.block 1 (.seq (.reg [⟨(some 14), .move (.t 12), none⟩, ⟨(some 6), .move (.t 14), none⟩])
  (.draw [(⟨(some 15), .move (.t 5), none⟩, 0), (⟨(some 16), .move (.t 6), none⟩, 0), (⟨(some 17), .move (.t 0), none⟩, 0), (⟨(some 18), .move (.t 6), none⟩, 0), (⟨(some 19), .iaddr 1 (.t 17) (.t 18), none⟩, 0), (⟨(some 20), .load (.t 19), none⟩, 0), (⟨(some 21), .move (.t 0), none⟩, 0), (⟨(some 22), .lenSl (.t 21), none⟩, 0), (⟨(some 23), .bin .add (.t 22) (.c (.int .i64 (.ofNat 1))), none⟩, 0), (⟨(some 24), .bin .mul (.t 20) (.t 23), none⟩, 0), (⟨(some 25), .move (.t 1), none⟩, 0), (⟨(some 26), .move (.t 6), none⟩, 0), (⟨(some 27), .iaddr 1 (.t 25) (.t 26), none⟩, 0), (⟨(some 28), .load (.t 27), none⟩, 0), (⟨(some 29), .bin .add (.t 24) (.t 28), none⟩, 0), (⟨(some 30), .iaddr 1 (.t 15) (.t 16), none⟩, 0), (⟨none, .store 1 (.t 30) (.t 29), none⟩, 1)])))
  (.reg [⟨(some 31), .bin .add (.t 12) (.c (.int .i64 (.ofNat 1))), none⟩, ⟨(some 12), .move (.t 31), none⟩])))))))
  (.seq (.reg [⟨(some 32), .move (.t 5), none⟩, ⟨(some 33), .call 126 [(.t 32)], none⟩, ⟨(some 4), .move (.t 33), none⟩])
  .ret))))⟩
theorem c127_ok : cFunc Go.Proofs.Try.prog Go.Proofs.Try.f127 = some c127 := by kernel_rfl
/-- semigroup/semigroupref07.Access -/
def c128 : CFunc := ⟨72, [.tmp 2, .tmp 3], (.seq (.reg [⟨(some 1), .box 32 (.t 0), none⟩, ⟨(some 2), .move (.c (.slice none 0 0)), none⟩, ⟨(some 3), .move (.c (.slice none 0 0)), none⟩])
  (.seq (.reg [⟨(some 10), .faddr 1 (.t 1), none⟩, ⟨(some 11), .load (.t 10), none⟩, ⟨(some 12), .buildSlice 3 1 1 [(.int .i64 (.ofNat 0))] [(0, (.t 11))], none⟩, ⟨(some 13), .buildSlice 9 1 1 [(.string ⟨⟨[]⟩⟩)] [(0, (.c (.string ⟨⟨[]⟩⟩)))], none⟩, ⟨(some 4), .move (.t 12), none⟩, ⟨(some 5), .move (.t 13), none⟩])
  (.seq (.reg [⟨(some 14), .faddr 2 (.t 1), none⟩, ⟨(some 15), .load (.t 14), none⟩, ⟨(some 16), .lenSl (.t 15), none⟩, ⟨(some 17), .mkSlice 4 1 1 [(.bool false)] (.t 16) (.t 16), none⟩, ⟨(some 6), .move (.t 17), none⟩])
  (.seq (.reg [⟨(some 18), .move (.t 6), none⟩, ⟨(some 19), .faddr 1 (.t 1), none⟩, ⟨(some 20), .load (.t 19), none⟩, ⟨(some 21), .iaddr 1 (.t 18) (.t 20), none⟩, ⟨none, .store 1 (.t 21) (.c (.bool true)), none⟩])
  (.seq (.seq (.reg [⟨(some 7), .move (.c (.int .i64 (.ofNat 0))), none⟩])
  (.block 0 (.loop (.seq (.seq (.reg [⟨(some 22), .move (.t 7), none⟩, ⟨(some 23), .move (.t 4), none⟩, ⟨(some 24), .lenSl (.t 23), none⟩, ⟨(some 25), .bin .lss (.t 22) (.t 24), none⟩])
  (.cond (.t 25) .skip (.exit 0)))
  (.seq (.block 1 (.seq (.reg [⟨(some 8), .move (.c (.int .i64 (.ofNat 0))), none⟩])
  (.block 2 (.loop (.seq (.seq (.reg [⟨(some 28), .move (.t 8), none⟩, ⟨(some 29), .faddr 0 (.t 1), none⟩, ⟨(some 30), .load (.t 29), none⟩, ⟨(some 31), .bin .lss (.t 28) (.t 30), none⟩])
  (.cond (.t 31) .skip (.exit 2)))
  (.seq (.block 3 (.seq (.draw [(⟨(some 34), .faddr 3 (.t 1), none⟩, 0), (⟨(some 35), .load (.t 34), none⟩, 0), (⟨(some 36), .move (.t 4), none⟩, 0), (⟨(some 37), .move (.t 7), none⟩, 0), (⟨(some 38), .iaddr 1 (.t 36) (.t 37), none⟩, 0), (⟨(some 39), .load (.t 38), none⟩, 0), (⟨(some 40), .iaddr 1 (.t 35) (.t 39), none⟩, 0), (⟨(some 41), .load (.t 40), none⟩, 0), (⟨(some 42), .move (.t 8), none⟩, 0), (⟨(some 43), .iaddr 1 (.t 41) (.t 42), none⟩, 0), (⟨(some 44), .load (.t 43), none⟩, 0), (⟨(some 9), .move (.t 44), none⟩, 0)])
  (.seq (.reg [⟨(some 45), .move (.t 6), none⟩, ⟨(some 46), .move (.t 9), none⟩, ⟨(some 47), .iaddr 1 (.t 45) (.t 46), none⟩, ⟨(some 48), .load (.t 47), none⟩, ⟨(some 49), .not (.t 48), none⟩])
  (.cond (.t 49) (.seq (.reg [⟨(some 50), .move (.t 6), none⟩, ⟨(some 51), .move (.t 9), none⟩, ⟨(some 52), .iaddr 1 (.t 50) (.t 51), none⟩, ⟨none, .store 1 (.t 52) (.c (.bool true)), none⟩])
  (.draw [(⟨(some 53), .move (.t 4), none⟩, 0), (⟨(some 54), .move (.t 9), none⟩, 0), (⟨(some 55), .buildSlice 3 1 1 [(.int .i64 (.ofNat 0))] [(0, (.t 54))], none⟩, 0), (⟨(some 57), .move (.t 5), none⟩, 1), (⟨(some 58), .move (.t 5), none⟩, 1), (⟨(some 59), .move (.t 7), none⟩, 1), (⟨(some 60), .iaddr 1 (.t 58) (.t 59), none⟩, 1), (⟨(some 61), .load (.t 60), none⟩, 1), (⟨(some 62), .move (.t 8), none⟩, 1), (⟨(some 63), .bin .add (.c (.int .i64 (.ofNat 97))) (.t 62), none⟩, 1), (⟨(some 64), .conv .u8 (.t 63), none⟩, 1), (⟨(some 65), .buildSlice 5 1 1 [(.int .u8 (.ofNat 0))] [(0, (.t 64))], none⟩, 1), (⟨(some 66), .strOf (.t 65), none⟩, 1), (⟨(some 67), .bin .add (.t 61) (.t 66), none⟩, 1), (⟨(some 68), .buildSlice 9 1 1 [(.string ⟨⟨[]⟩⟩)] [(0, (.t 67))], none⟩, 1), (⟨(some 56), .append 3 1 8 (.t 53) (.t 55), none⟩, 1), (⟨(some 69), .append 9 1 16 (.t 57) (.t 68), none⟩, 2), (⟨(some 4), .move (.t 56), none⟩, 2), (⟨(some 5), .move (.t 69), none⟩, 2)])) .skip))))
  (.reg [⟨(some 32), .move (.t 8), none⟩, ⟨(some 33), .bin .add (.t 32) (.c (.int .i64 (.ofNat 1))), none⟩, ⟨(some 8), .move (.t 33), none⟩])))))))
  (.reg [⟨(some 26), .move (.t 7), none⟩, ⟨(some 27), .bin .add (.t 26) (.c (.int .i64 (.ofNat 1))), none⟩, ⟨(some 7), .move (.t 27), none⟩]))))))
  (.seq (.reg [⟨(some 70), .move (.t 4), none⟩, ⟨(some 71), .move (.t 5), none⟩, ⟨(some 2), .move (.t 70), none⟩, ⟨(some 3), .move (.t 71), none⟩])
  .ret))))))⟩
theorem c128_ok : cFunc Go.Proofs.Try.prog Go.Proofs.Try.f128 = some c128 := by kernel_rfl
/-- semigroup/semigroupref12.Start -/
def c129 : CFunc := ⟨88, [.cells 9 4, .tmp 5], (.seq (.reg [⟨(some 4), .alloc 163 [(.int .i64 (.ofNat 0)), (.bool false), (.slice none 0 0), (.slice none 0 0), (.slice none 0 0), (.slice none 0 0), (.slice none 0 0), (.slice none 0 0), (.int .i64 (.ofNat 0))], none⟩, ⟨(some 5), .move (.c (.int .i64 (.ofNat 0))), none⟩])
  (.seq (.seq (.reg [⟨(some 11), .move (.t 0), none⟩, ⟨(some 12), .lenSl (.t 11), none⟩, ⟨(some 13), .bin .lss (.t 12) (.c (.int .i64 (.ofNat 1))), none⟩, ⟨(some 14), .move (.t 13), none⟩, ⟨(some 15), .move (.t 0), (some (14, false))⟩, ⟨(some 16), .lenSl (.t 15), (some (14, false))⟩, ⟨(some 17), .bin .gtr (.t 16) (.c (.int .i64 (.ofNat 6))), (some (14, false))⟩, ⟨(some 18), .pick (.t 14) (.c (.bool true)) (.t 17), none⟩])
  (.cond (.t 18) (.seq (.reg [⟨(some 19), .build [(.int .i64 (.ofNat 0)), (.bool false), (.slice none 0 0), (.slice none 0 0), (.slice none 0 0), (.slice none 0 0), (.slice none 0 0), (.slice none 0 0), (.int .i64 (.ofNat 0))] [], none⟩, ⟨none, .store 9 (.t 4) (.t 19), none⟩, ⟨(some 5), .move (.c (.int .i64 (.ofNat 1))), none⟩])
  .ret) .skip))
  (.seq (.seq (.reg [⟨(some 20), .move (.t 0), none⟩, ⟨(some 21), .call 142 [(.t 20)], none⟩, ⟨(some 22), .not (.t 21), none⟩])
  (.cond (.t 22) (.seq (.reg [⟨(some 23), .build [(.int .i64 (.ofNat 0)), (.bool false), (.slice none 0 0), (.slice none 0 0), (.slice none 0 0), (.slice none 0 0), (.slice none 0 0), (.slice none 0 0), (.int .i64 (.ofNat 0))] [], none⟩, ⟨none, .store 9 (.t 4) (.t 23), none⟩, ⟨(some 5), .move (.c (.int .i64 (.ofNat 4))), none⟩])
  .ret) .skip))
  (.seq (.draw [(⟨(some 24), .move (.t 0), none⟩, 1), (⟨(some 25), .iaddr 1 (.t 24) (.c (.int .i64 (.ofNat 0))), none⟩, 1), (⟨(some 26), .load (.t 25), none⟩, 1), (⟨(some 27), .lenSl (.t 26), none⟩, 1), (⟨(some 28), .move (.t 1), none⟩, 1), (⟨(some 29), .move (.t 0), none⟩, 0), (⟨(some 6), .alloc 163 [(.int .i64 (.ofNat 0)), (.bool false), (.slice none 0 0), (.slice none 0 0), (.slice none 0 0), (.slice none 0 0), (.slice none 0 0), (.slice none 0 0), (.int .i64 (.ofNat 0))], none⟩, 1), (⟨(some 30), .call 143 [(.t 29)], none⟩, 1), (⟨(some 31), .build [(.int .i64 (.ofNat 0)), (.bool false), (.slice none 0 0), (.slice none 0 0), (.slice none 0 0), (.slice none 0 0), (.slice none 0 0), (.slice none 0 0), (.int .i64 (.ofNat 0))] [(0, 1, (.t 27)), (1, 1, (.t 28)), (2, 1, (.t 30))], none⟩, 1), (⟨none, .store 9 (.t 6) (.t 31), none⟩, 2)])
  (.seq (.reg [⟨(some 7), .move (.c (.int .i64 (.negSucc 0))), none⟩])
  (.seq (.seq (.reg [⟨(some 32), .move (.t 1), none⟩])
  (.cond (.t 32) (.seq (.reg [⟨(some 33), .faddr 0 (.t 6), none⟩, ⟨(some 34), .load (.t 33), none⟩, ⟨(some 35), .call 144 [(.t 34)], none⟩, ⟨(some 36), .buildSlice 22 1 1 [(.slice none 0 0)] [(0, (.t 35))], none⟩, ⟨(some 37), .buildSlice 3 1 1 [(.int .i64 (.ofNat 0))] [(0, (.c (.int .i64 (.negSucc 0))))], none⟩, ⟨(some 38), .buildSlice 3 1 1 [(.int .i64 (.ofNat 0))] [(0, (.c (.int .i64 (.negSucc 0))))], none⟩, ⟨(some 39), .faddr 3 (.t 6), none⟩, ⟨none, .store 1 (.t 39) (.t 36), none⟩, ⟨(some 40), .faddr 4 (.t 6), none⟩, ⟨none, .store 1 (.t 40) (.t 37), none⟩, ⟨(some 41), .faddr 5 (.t 6), none⟩, ⟨none, .store 1 (.t 41) (.t 38), none⟩])
  (.reg [⟨(some 7), .move (.c (.int .i64 (.ofNat 0))), none⟩])) .skip))
  (.seq (.seq (.reg [⟨(some 42), .move (.t 0), none⟩, ⟨(some 43), .lenSl (.t 42), none⟩, ⟨(some 44), .move (.c (.int .i64 (.ofNat 0))), none⟩])
  (.block 0 (.loop (.seq (.reg [⟨(some 45), .bin .lss (.t 44) (.t 43), none⟩])
  (.seq (.cond (.t 45) .skip (.exit 0))
  (.seq (.block 1 (.seq (.reg [⟨(some 46), .move (.t 44), none⟩, ⟨(some 47), .iaddr 1 (.t 42) (.t 44), none⟩, ⟨(some 48), .load (.t 47), none⟩, ⟨(some 8), .move (.t 46), none⟩, ⟨(some 9), .move (.t 48), none⟩])
  (.seq (.reg [⟨(some 49), .faddr 3 (.t 6), none⟩, ⟨(some 50), .load (.t 49), none⟩, ⟨(some 51), .move (.t 9), none⟩, ⟨(some 52), .call 115 [(.t 50), (.t 51)], none⟩, ⟨(some 10), .move (.t 52), none⟩])
  (.seq (.seq (.reg [⟨(some 53), .move (.t 10), none⟩, ⟨(some 54), .bin .geq (.t 53) (.c (.int .i64 (.ofNat 0))), none⟩])
  (.cond (.t 54) (.seq (.draw [(⟨(some 55), .faddr 7 (.t 6), none⟩, 2), (⟨(some 56), .load (.t 55), none⟩, 2), (⟨(some 57), .move (.t 8), none⟩, 0), (⟨(some 59), .loadN 9 (.t 6), none⟩, 1), (⟨(some 60), .move (.t 10), none⟩, 1), (⟨(some 58), .call 131 [(.t 57)], none⟩, 1), (⟨(some 61), .call 114 [(.t 59), (.t 60)], none⟩, 2), (⟨(some 62), .build [(.string ⟨⟨[]⟩⟩), (.string ⟨⟨[]⟩⟩)] [(0, 1, (.t 58)), (1, 1, (.t 61))], none⟩, 2), (⟨(some 63), .buildSlice 197 2 1 [(.string ⟨⟨[]⟩⟩), (.string ⟨⟨[]⟩⟩)] [(0, (.t 62))], none⟩, 2), (⟨(some 64), .append 197 2 32 (.t 56) (.t 63), none⟩, 3), (⟨(some 65), .faddr 7 (.t 6), none⟩, 3), (⟨none, .store 1 (.t 65) (.t 64), none⟩, 4)])
  (.exit 1)) .skip))
  (.draw [(⟨(some 66), .faddr 3 (.t 6), none⟩, 1), (⟨(some 67), .load (.t 66), none⟩, 1), (⟨(some 68), .buildSlice 3 1 0 [] [], none⟩, 0), (⟨(some 69), .move (.t 9), none⟩, 0), (⟨(some 73), .faddr 4 (.t 6), none⟩, 2), (⟨(some 74), .load (.t 73), none⟩, 2), (⟨(some 75), .move (.t 7), none⟩, 2), (⟨(some 76), .buildSlice 3 1 1 [(.int .i64 (.ofNat 0))] [(0, (.t 75))], none⟩, 2), (⟨(some 78), .faddr 5 (.t 6), none⟩, 3), (⟨(some 79), .load (.t 78), none⟩, 3), (⟨(some 80), .move (.t 8), none⟩, 3), (⟨(some 81), .buildSlice 3 1 1 [(.int .i64 (.ofNat 0))] [(0, (.t 80))], none⟩, 3), (⟨(some 70), .append 3 1 8 (.t 68) (.t 69), none⟩, 1), (⟨(some 71), .buildSlice 22 1 1 [(.slice none 0 0)] [(0, (.t 70))], none⟩, 1), (⟨(some 72), .append 22 1 24 (.t 67) (.t 71), none⟩, 2), (⟨(some 83), .faddr 3 (.t 6), none⟩, 4), (⟨(some 77), .append 3 1 8 (.t 74) (.t 76), none⟩, 3), (⟨(some 82), .append 3 1 8 (.t 79) (.t 81), none⟩, 4), (⟨none, .store 1 (.t 83) (.t 72), none⟩, 5), (⟨(some 84), .faddr 4 (.t 6), none⟩, 5), (⟨none, .store 1 (.t 84) (.t 77), none⟩, 6), (⟨(some 85), .faddr 5 (.t 6), none⟩, 6), (⟨none, .store 1 (.t 85) (.t 82), none⟩, 7)])))))
  (.reg [⟨(some 86), .bin .add (.t 44) (.c (.int .i64 (.ofNat 1))), none⟩, ⟨(some 44), .move (.t 86), none⟩])))))))
  (.seq (.reg [⟨(some 87), .loadN 9 (.t 6), none⟩, ⟨none, .store 9 (.t 4) (.t 87), none⟩, ⟨(some 5), .move (.c (.int .i64 (.ofNat 0))), none⟩])
  .ret))))))))⟩
theorem c129_ok : cFunc Go.Proofs.Try.prog Go.Proofs.Try.f129 = some c129 := by kernel_rfl
/-- semigroup/semigroupref12.process -/
def c130 : CFunc := ⟨191, [.cells 9 4, .tmp 5], (.seq (.reg [⟨(some 2), .box 163 (.t 0), none⟩, ⟨(some 4), .alloc 163 [(.int .i64 (.ofNat 0)), (.bool false), (.slice none 0 0), (.slice none 0 0), (.slice none 0 0), (.slice none 0 0), (.slice none 0 0), (.slice none 0 0), (.int .i64 (.ofNat 0))], none⟩, ⟨(some 5), .move (.c (.int .i64 (.ofNat 0))), none⟩])
  (.seq (.draw [(⟨(some 18), .faddr 0 (.t 2), none⟩, 5), (⟨(some 19), .load (.t 18), none⟩, 5), (⟨(some 20), .faddr 1 (.t 2), none⟩, 5), (⟨(some 21), .load (.t 20), none⟩, 5), (⟨(some 22), .faddr 2 (.t 2), none⟩, 5), (⟨(some 23), .load (.t 22), none⟩, 5), (⟨(some 24), .buildSlice 22 1 0 [] [], none⟩, 0), (⟨(some 25), .faddr 3 (.t 2), none⟩, 0), (⟨(some 26), .load (.t 25), none⟩, 0), (⟨(some 28), .buildSlice 3 1 0 [] [], none⟩, 1), (⟨(some 29), .faddr 4 (.t 2), none⟩, 1), (⟨(some 30), .load (.t 29), none⟩, 1), (⟨(some 32), .buildSlice 3 1 0 [] [], none⟩, 2), (⟨(some 33), .faddr 5 (.t 2), none⟩, 2), (⟨(some 34), .load (.t 33), none⟩, 2), (⟨(some 36), .buildSlice 22 1 0 [] [], none⟩, 3), (⟨(some 37), .faddr 6 (.t 2), none⟩, 3), (⟨(some 38), .load (.t 37), none⟩, 3), (⟨(some 40), .buildSlice 197 2 0 [] [], none⟩, 4), (⟨(some 41), .faddr 7 (.t 2), none⟩, 4), (⟨(some 42), .load (.t 41), none⟩, 4), (⟨(some 44), .faddr 8 (.t 2), none⟩, 5), (⟨(some 45), .load (.t 44), none⟩, 5), (⟨(some 6), .alloc 163 [(.int .i64 (.ofNat 0)), (.bool false), (.slice none 0 0), (.slice none 0 0), (.slice none 0 0), (.slice none 0 0), (.slice none 0 0), (.slice none 0 0), (.int .i64 (.ofNat 0))], none⟩, 5), (⟨(some 27), .append 22 1 24 (.t 24) (.t 26), none⟩, 1), (⟨(some 31), .append 3 1 8 (.t 28) (.t 30), none⟩, 2), (⟨(some 35), .append 3 1 8 (.t 32) (.t 34), none⟩, 3), (⟨(some 39), .append 22 1 24 (.t 36) (.t 38), none⟩, 4), (⟨(some 43), .append 197 2 32 (.t 40) (.t 42), none⟩, 5), (⟨(some 46), .build [(.int .i64 (.ofNat 0)), (.bool false), (.slice none 0 0), (.slice none 0 0), (.slice none 0 0), (.slice none 0 0), (.slice none 0 0), (.slice none 0 0), (.int .i64 (.ofNat 0))] [(0, 1, (.t 19)), (1, 1, (.t 21)), (2, 1, (.t 23)), (3, 1, (.t 27)), (4, 1, (.t 31)), (5, 1, (.t 35)), (6, 1, (.t 39)), (7, 1, (.t 43)), (8, 1, (.t 45))], none⟩, 5), (⟨none, .store 9 (.t 6) (.t 46), none⟩, 6)])
  (.seq (.reg [⟨(some 47), .mkMap, none⟩, ⟨(some 7), .move (.t 47), none⟩])
  (.seq (.reg [⟨(some 8), .move (.c (.slice none 0 0)), none⟩])
  (.seq (.seq (.reg [⟨(some 48), .faddr 3 (.t 6), none⟩, ⟨(some 49), .load (.t 48), none⟩, ⟨(some 50), .lenSl (.t 49), none⟩, ⟨(some 51), .move (.c (.int .i64 (.ofNat 0))), none⟩])
  (.block 0 (.loop (.seq (.reg [⟨(some 52), .bin .lss (.t 51) (.t 50), none⟩])
  (.seq (.cond (.t 52) .skip (.exit 0))
  (.seq (.block 1 (.seq (.reg [⟨(some 53), .move (.t 51), none⟩, ⟨(some 9), .move (.t 53), none⟩])
  (.seq (.reg [⟨(some 54), .move (.t 8), none⟩, ⟨(some 55), .loadN 9 (.t 6), none⟩, ⟨(some 56), .move (.t 9), none⟩, ⟨(some 57), .call 114 [(.t 55), (.t 56)], none⟩, ⟨(some 58), .buildSlice 9 1 1 [(.string ⟨⟨[]⟩⟩)] [(0, (.t 57))], none⟩, ⟨(some 59), .append 9 1 16 (.t 54) (.t 58), none⟩, ⟨(some 8), .move (.t 59), none⟩])
  (.reg [⟨(some 60), .move (.t 7), none⟩, ⟨(some 61), .move (.t 8), none⟩, ⟨(some 62), .move (.t 9), none⟩, ⟨(some 63), .iaddr 1 (.t 61) (.t 62), none⟩, ⟨(some 64), .load (.t 63), none⟩, ⟨(some 65), .move (.t 9), none⟩, ⟨none, .mapSet (.one .str) (.t 60) (.t 64) (.t 65), none⟩]))))
  (.reg [⟨(some 66), .bin .add (.t 51) (.c (.int .i64 (.ofNat 1))), none⟩, ⟨(some 51), .move (.t 66), none⟩])))))))
  (.seq (.block 2 (.loop (.seq (.seq (.reg [⟨(some 67), .move (.t 1), none⟩, ⟨(some 68), .bin .gtr (.t 67) (.c (.int .i64 (.ofNat 0))), none⟩, ⟨(some 69), .move (.t 68), none⟩, ⟨(some 70), .faddr 8 (.t 6), (some (69, true))⟩, ⟨(some 71), .load (.t 70), (some (69, true))⟩, ⟨(some 72), .faddr 3 (.t 6), (some (69, true))⟩, ⟨(some 73), .load (.t 72), (some (69, true))⟩, ⟨(some 74), .lenSl (.t 73), (some (69, true))⟩, ⟨(some 75), .bin .lss (.t 71) (.t 74), (some (69, true))⟩, ⟨(some 76), .pick (.t 69) (.t 75) (.c (.bool false)), none⟩])
  (.cond (.t 76) .skip (.exit 2)))
  (.seq (.block 3 (.seq (.reg [⟨(some 10), .move (.c (.slice none 0 0)), none⟩])
  (.seq (.reg [⟨(some 79), .move (.t 8), none⟩, ⟨(some 80), .faddr 8 (.t 6), none⟩, ⟨(some 81), .load (.t 80), none⟩, ⟨(some 82), .iaddr 1 (.t 79) (.t 81), none⟩, ⟨(some 83), .load (.t 82), none⟩, ⟨(some 11), .move (.t 83), none⟩])
  (.seq (.seq (.reg [⟨(some 84), .faddr 2 (.t 6), none⟩, ⟨(some 85), .load (.t 84), none⟩, ⟨(some 86), .lenSl (.t 85), none⟩, ⟨(some 87), .move (.c (.int .i64 (.ofNat 0))), none⟩])
  (.block 4 (.loop (.seq (.reg [⟨(some 88), .bin .lss (.t 87) (.t 86), none⟩])
  (.seq (.cond (.t 88) .skip (.exit 4))
  (.seq (.block 5 (.seq (.reg [⟨(some 89), .move (.t 87), none⟩, ⟨(some 12), .move (.t 89), none⟩])
  (.seq (.draw [(⟨(some 90), .faddr 3 (.t 6), none⟩, 0), (⟨(some 91), .load (.t 90), none⟩, 0), (⟨(some 92), .faddr 8 (.t 6), none⟩, 0), (⟨(some 93), .load (.t 92), none⟩, 0), (⟨(some 94), .iaddr 1 (.t 91) (.t 93), none⟩, 0), (⟨(some 95), .load (.t 94), none⟩, 0), (⟨(some 96), .faddr 2 (.t 6), none⟩, 0), (⟨(some 97), .load (.t 96), none⟩, 0), (⟨(some 98), .move (.t 12), none⟩, 0), (⟨(some 99), .iaddr 1 (.t 97) (.t 98), none⟩, 0), (⟨(some 100), .load (.t 99), none⟩, 0), (⟨(some 101), .call 145 [(.t 95), (.t 100)], none⟩, 1), (⟨(some 13), .move (.t 101), none⟩, 1)])
  (.seq (.reg [⟨(some 102), .faddr 3 (.t 6), none⟩, ⟨(some 103), .load (.t 102), none⟩, ⟨(some 104), .move (.t 13), none⟩, ⟨(some 105), .call 115 [(.t 103), (.t 104)], none⟩, ⟨(some 14), .move (.t 105), none⟩])
  (.seq (.reg [⟨(some 106), .move (.t 11), none⟩, ⟨(some 107), .move (.t 12), none⟩, ⟨(some 108), .call 131 [(.t 107)], none⟩, ⟨(some 109), .bin .add (.t 106) (.t 108), none⟩, ⟨(some 15), .move (.t 109), none⟩])
  (.seq (.seq (.reg [⟨(some 110), .move (.t 14), none⟩, ⟨(some 111), .bin .lss (.t 110) (.c (.int .i64 (.ofNat 0))), none⟩])
  (.cond (.t 111) (.seq (.seq (.reg [⟨(some 112), .faddr 3 (.t 6), none⟩, ⟨(some 113), .load (.t 112), none⟩, ⟨(some 114), .lenSl (.t 113), none⟩, ⟨(some 115), .bin .eql (.t 114) (.c (.int .i64 (.ofNat 2000))), none⟩])
  (.cond (.t 115) (.seq (.reg [⟨(some 116), .build [(.int .i64 (.ofNat 0)), (.bool false), (.slice none 0 0), (.slice none 0 0), (.slice none 0 0), (.slice none 0 0), (.slice none 0 0), (.slice none 0 0), (.int .i64 (.ofNat 0))] [], none⟩, ⟨none, .store 9 (.t 4) (.t 116), none⟩, ⟨(some 5), .move (.c (.int .i64 (.ofNat 3))), none⟩])
  .ret) .skip))
  (.seq (.reg [⟨(some 117), .faddr 3 (.t 6), none⟩, ⟨(some 118), .load (.t 117), none⟩, ⟨(some 119), .lenSl (.t 118), none⟩, ⟨(some 14), .move (.t 119), none⟩])
  (.seq (.draw [(⟨(some 120), .faddr 3 (.t 6), none⟩, 0), (⟨(some 121), .load (.t 120), none⟩, 0), (⟨(some 122), .move (.t 13), none⟩, 0), (⟨(some 123), .buildSlice 22 1 1 [(.slice none 0 0)] [(0, (.t 122))], none⟩, 0), (⟨(some 125), .faddr 4 (.t 6), none⟩, 1), (⟨(some 126), .load (.t 125), none⟩, 1), (⟨(some 127), .faddr 8 (.t 6), none⟩, 1), (⟨(some 128), .load (.t 127), none⟩, 1), (⟨(some 129), .buildSlice 3 1 1 [(.int .i64 (.ofNat 0))] [(0, (.t 128))], none⟩, 1), (⟨(some 131), .faddr 5 (.t 6), none⟩, 2), (⟨(some 132), .load (.t 131), none⟩, 2), (⟨(some 133), .move (.t 12), none⟩, 2), (⟨(some 134), .buildSlice 3 1 1 [(.int .i64 (.ofNat 0))] [(0, (.t 133))], none⟩, 2), (⟨(some 124), .append 22 1 24 (.t 121) (.t 123), none⟩, 1), (⟨(some 136), .faddr 3 (.t 6), none⟩, 3), (⟨(some 130), .append 3 1 8 (.t 126) (.t 129), none⟩, 2), (⟨(some 135), .append 3 1 8 (.t 132) (.t 134), none⟩, 3), (⟨none, .store 1 (.t 136) (.t 124), none⟩, 4), (⟨(some 137), .faddr 4 (.t 6), none⟩, 4), (⟨none, .store 1 (.t 137) (.t 130), none⟩, 5), (⟨(some 138), .faddr 5 (.t 6), none⟩, 5), (⟨none, .store 1 (.t 138) (.t 135), none⟩, 6)])
  (.seq (.reg [⟨(some 139), .move (.t 8), none⟩, ⟨(some 140), .move (.t 15), none⟩, ⟨(some 141), .buildSlice 9 1 1 [(.string ⟨⟨[]⟩⟩)] [(0, (.t 140))], none⟩, ⟨(some 142), .append 9 1 16 (.t 139) (.t 141), none⟩, ⟨(some 8), .move (.t 142), none⟩])
  (.reg [⟨(some 143), .move (.t 7), none⟩, ⟨(some 144), .move (.t 15), none⟩, ⟨(some 145), .move (.t 14), none⟩, ⟨none, .mapSet (.one .str) (.t 143) (.t 144) (.t 145), none⟩]))))) (.seq (.reg [⟨(some 146), .move (.t 11), none⟩, ⟨(some 147), .bin .neq (.t 146) (.c (.string ⟨⟨[]⟩⟩)), none⟩, ⟨(some 148), .move (.t 147), none⟩, ⟨(some 149), .move (.t 8), (some (148, true))⟩, ⟨(some 150), .move (.t 14), (some (148, true))⟩, ⟨(some 151), .iaddr 1 (.t 149) (.t 150), (some (148, true))⟩, ⟨(some 152), .load (.t 151), (some (148, true))⟩, ⟨(some 153), .move (.t 15), (some (148, true))⟩, ⟨(some 154), .bin .neq (.t 152) (.t 153), (some (148, true))⟩, ⟨(some 155), .pick (.t 148) (.t 154) (.c (.bool false)), none⟩])
  (.cond (.t 155) (.seq (.reg [⟨(some 157), .move (.t 7), none⟩, ⟨(some 158), .move (.t 15), none⟩, ⟨(some 159), .sub (.t 158) (some (.c (.int .i64 (.ofNat 1)))) none, none⟩, ⟨(some 160), .lookup (.one .str) (.int .i64 (.ofNat 0)) true (.t 157) (.t 159), none⟩, ⟨(some 156), .move (.t 160), none⟩, ⟨(some 161), .extract 0 (.t 156), none⟩, ⟨(some 162), .extract 1 (.t 156), none⟩, ⟨(some 16), .move (.t 161), none⟩, ⟨(some 17), .move (.t 162), none⟩])
  (.seq (.reg [⟨(some 163), .move (.t 17), none⟩])
  (.cond (.t 163) (.draw [(⟨(some 164), .faddr 7 (.t 6), none⟩, 0), (⟨(some 165), .load (.t 164), none⟩, 0), (⟨(some 166), .move (.t 15), none⟩, 0), (⟨(some 167), .move (.t 8), none⟩, 0), (⟨(some 168), .move (.t 14), none⟩, 0), (⟨(some 169), .iaddr 1 (.t 167) (.t 168), none⟩, 0), (⟨(some 170), .load (.t 169), none⟩, 0), (⟨(some 171), .build [(.string ⟨⟨[]⟩⟩), (.string ⟨⟨[]⟩⟩)] [(0, 1, (.t 166)), (1, 1, (.t 170))], none⟩, 0), (⟨(some 172), .buildSlice 197 2 1 [(.string ⟨⟨[]⟩⟩), (.string ⟨⟨[]⟩⟩)] [(0, (.t 171))], none⟩, 0), (⟨(some 173), .append 197 2 32 (.t 165) (.t 172), none⟩, 1), (⟨(some 174), .faddr 7 (.t 6), none⟩, 1), (⟨none, .store 1 (.t 174) (.t 173), none⟩, 2)]) .skip))) .skip))))
  (.reg [⟨(some 175), .move (.t 10), none⟩, ⟨(some 176), .move (.t 14), none⟩, ⟨(some 177), .buildSlice 3 1 1 [(.int .i64 (.ofNat 0))] [(0, (.t 176))], none⟩, ⟨(some 178), .append 3 1 8 (.t 175) (.t 177), none⟩, ⟨(some 10), .move (.t 178), none⟩])))))))
  (.reg [⟨(some 179), .bin .add (.t 87) (.c (.int .i64 (.ofNat 1))), none⟩, ⟨(some 87), .move (.t 179), none⟩])))))))
  (.seq (.reg [⟨(some 180), .faddr 6 (.t 6), none⟩, ⟨(some 181), .load (.t 180), none⟩, ⟨(some 182), .move (.t 10), none⟩, ⟨(some 183), .buildSlice 22 1 1 [(.slice none 0 0)] [(0, (.t 182))], none⟩, ⟨(some 184), .append 22 1 24 (.t 181) (.t 183), none⟩, ⟨(some 185), .faddr 6 (.t 6), none⟩, ⟨none, .store 1 (.t 185) (.t 184), none⟩])
  (.reg [⟨(some 186), .faddr 8 (.t 6), none⟩, ⟨(some 187), .load (.t 186), none⟩, ⟨(some 188), .bin .add (.t 187) (.c (.int .i64 (.ofNat 1))), none⟩, ⟨(some 189), .faddr 8 (.t 6), none⟩, ⟨none, .store 1 (.t 189) (.t 188), none⟩]))))))
  (.reg [⟨(some 77), .move (.t 1), none⟩, ⟨(some 78), .bin .sub (.t 77) (.c (.int .i64 (.ofNat 1))), none⟩, ⟨(some 1), .move (.t 78), none⟩])))))
  (.seq (.reg [⟨(some 190), .loadN 9 (.t 6), none⟩, ⟨none, .store 9 (.t 4) (.t 190), none⟩, ⟨(some 5), .move (.c (.int .i64 (.ofNat 0))), none⟩])
  .ret)))))))⟩
theorem c130_ok : cFunc Go.Proofs.Try.prog Go.Proofs.Try.f130 = some c130 := by kernel_rfl
/-- semigroup/semigroupref12.letter -/
def c131 : CFunc := ⟨8, [.tmp 2], (.seq (.reg [⟨(some 2), .move (.c (.string ⟨⟨[]⟩⟩)), none⟩])
  (.seq (.reg [⟨(some 3), .move (.t 0), none⟩, ⟨(some 4), .bin .add (.c (.int .i64 (.ofNat 97))) (.t 3), none⟩, ⟨(some 5), .conv .u8 (.t 4), none⟩, ⟨(some 6), .buildSlice 5 1 1 [(.int .u8 (.ofNat 0))] [(0, (.t 5))], none⟩, ⟨(some 7), .strOf (.t 6), none⟩, ⟨(some 2), .move (.t 7), none⟩])
  .ret))⟩
theorem c131_ok : cFunc Go.Proofs.Try.prog Go.Proofs.Try.f131 = some c131 := by kernel_rfl
/-- semigroup/semigroupref03.Set -/
def c132 : CFunc := ⟨28, [.tmp 4], (.seq (.reg [⟨(some 4), .move (.c (.slice none 0 0)), none⟩])
  (.seq (.reg [⟨(some 8), .move (.t 1), none⟩, ⟨(some 9), .mkSlice 4 1 1 [(.bool false)] (.t 8) (.t 8), none⟩, ⟨(some 5), .move (.t 9), none⟩])
  (.seq (.seq (.reg [⟨(some 10), .move (.t 0), none⟩, ⟨(some 11), .lenSl (.t 10), none⟩, ⟨(some 12), .move (.c (.int .i64 (.ofNat 0))), none⟩])
  (.block 0 (.loop (.seq (.reg [⟨(some 13), .bin .lss (.t 12) (.t 11), none⟩])
  (.seq (.cond (.t 13) .skip (.exit 0))
  (.seq (.block 1 (.seq (.reg [⟨(some 14), .iaddr 1 (.t 10) (.t 12), none⟩, ⟨(some 15), .load (.t 14), none⟩, ⟨(some 7), .move (.t 15), none⟩])
  (.seq (.reg [⟨(some 16), .move (.t 7), none⟩, ⟨(some 17), .bin .geq (.t 16) (.c (.int .i64 (.ofNat 0))), none⟩, ⟨(some 18), .move (.t 17), none⟩, ⟨(some 19), .move (.t 7), (some (18, true))⟩, ⟨(some 20), .move (.t 1), (some (18, true))⟩, ⟨(some 21), .bin .lss (.t 19) (.t 20), (some (18, true))⟩, ⟨(some 22), .pick (.t 18) (.t 21) (.c (.bool false)), none⟩])
  (.cond (.t 22) (.reg [⟨(some 23), .move (.t 5), none⟩, ⟨(some 24), .move (.t 7), none⟩, ⟨(some 25), .iaddr 1 (.t 23) (.t 24), none⟩, ⟨none, .store 1 (.t 25) (.c (.bool true)), none⟩]) .skip))))
  (.reg [⟨(some 26), .bin .add (.t 12) (.c (.int .i64 (.ofNat 1))), none⟩, ⟨(some 12), .move (.t 26), none⟩])))))))
  (.seq (.reg [⟨(some 27), .move (.t 5), none⟩, ⟨(some 4), .move (.t 27), none⟩])
  .ret))))⟩
theorem c132_ok : cFunc Go.Proofs.Try.prog Go.Proofs.Try.f132 = some c132 := by kernel_rfl
/-- semigroup/semigroupref03.Members -/
def c133 : CFunc := ⟨20, [.tmp 2], (.seq (.reg [⟨(some 2), .move (.c (.slice none 0 0)), none⟩])
  (.seq (.reg [⟨(some 3), .move (.c (.slice none 0 0)), none⟩])
  (.seq (.seq (.reg [⟨(some 6), .move (.t 0), none⟩, ⟨(some 7), .lenSl (.t 6), none⟩, ⟨(some 8), .move (.c (.int .i64 (.ofNat 0))), none⟩])
  (.block 0 (.loop (.seq (.reg [⟨(some 9), .bin .lss (.t 8) (.t 7), none⟩])
  (.seq (.cond (.t 9) .skip (.exit 0))
  (.seq (.block 1 (.seq (.reg [⟨(some 10), .move (.t 8), none⟩, ⟨(some 11), .iaddr 1 (.t 6) (.t 8), none⟩, ⟨(some 12), .load (.t 11), none⟩, ⟨(some 4), .move (.t 10), none⟩, ⟨(some 5), .move (.t 12), none⟩])
  (.seq (.reg [⟨(some 13), .move (.t 5), none⟩])
  (.cond (.t 13) (.reg [⟨(some 14), .move (.t 3), none⟩, ⟨(some 15), .move (.t 4), none⟩, ⟨(some 16), .buildSlice 3 1 1 [(.int .i64 (.ofNat 0))] [(0, (.t 15))], none⟩, ⟨(some 17), .append 3 1 8 (.t 14) (.t 16), none⟩, ⟨(some 3), .move (.t 17), none⟩]) .skip))))
  (.reg [⟨(some 18), .bin .add (.t 8) (.c (.int .i64 (.ofNat 1))), none⟩, ⟨(some 8), .move (.t 18), none⟩])))))))
  (.seq (.reg [⟨(some 19), .move (.t 3), none⟩, ⟨(some 2), .move (.t 19), none⟩])
  .ret))))⟩
theorem c133_ok : cFunc Go.Proofs.Try.prog Go.Proofs.Try.f133 = some c133 := by kernel_rfl
/-- semigroup/syntactic.automaton -/
def c134 : CFunc := ⟨151, [.cells 4 2, .tmp 3], (.seq (.reg [⟨(some 1), .box 101 (.t 0), none⟩, ⟨(some 2), .alloc 32 [(.int .i64 (.ofNat 0)), (.int .i64 (.ofNat 0)), (.slice none 0 0), (.slice none 0 0)], none⟩, ⟨(some 3), .move (.c (.bool false)), none⟩])
  (.seq (.reg [⟨(some 17), .faddr 1 (.t 1), none⟩, ⟨(some 18), .load (.t 17), none⟩, ⟨(some 19), .lenSl (.t 18), none⟩, ⟨(some 4), .move (.t 19), none⟩])
  (.seq (.seq (.reg [⟨(some 20), .move (.t 4), none⟩, ⟨(some 21), .bin .eql (.t 20) (.c (.int .i64 (.ofNat 0))), none⟩, ⟨(some 22), .move (.t 21), none⟩, ⟨(some 23), .move (.t 4), (some (22, false))⟩, ⟨(some 24), .bin .gtr (.t 23) (.c (.int .i64 (.ofNat 400))), (some (22, false))⟩, ⟨(some 25), .pick (.t 22) (.c (.bool true)) (.t 24), none⟩, ⟨(some 26), .move (.t 25), none⟩, ⟨(some 27), .faddr 0 (.t 1), (some (26, false))⟩, ⟨(some 28), .load (.t 27), (some (26, false))⟩, ⟨(some 29), .bin .lss (.t 28) (.c (.int .i64 (.ofNat 1))), (some (26, false))⟩, ⟨(some 30), .pick (.t 26) (.c (.bool true)) (.t 29), none⟩, ⟨(some 31), .move (.t 30), none⟩, ⟨(some 32), .faddr 0 (.t 1), (some (31, false))⟩, ⟨(some 33), .load (.t 32), (some (31, false))⟩, ⟨(some 34), .bin .gtr (.t 33) (.c (.int .i64 (.ofNat 6))), (some (31, false))⟩, ⟨(some 35), .pick (.t 31) (.c (.bool true)) (.t 34), none⟩, ⟨(some 36), .move (.t 35), none⟩, ⟨(some 37), .faddr 3 (.t 1), (some (36, false))⟩, ⟨(some 38), .load (.t 37), (some (36, false))⟩, ⟨(some 39), .lenSl (.t 38), (some (36, false))⟩, ⟨(some 40), .faddr 0 (.t 1), (some (36, false))⟩, ⟨(some 41), .load (.t 40), (some (36, false))⟩, ⟨(some 42), .bin .neq (.t 39) (.t 41), (some (36, false))⟩, ⟨(some 43), .pick (.t 36) (.c (.bool true)) (.t 42), none⟩, ⟨(some 44), .move (.t 43), none⟩, ⟨(some 45), .faddr 2 (.t 1), (some (44, false))⟩, ⟨(some 46), .load (.t 45), (some (44, false))⟩, ⟨(some 47), .lenSl (.t 46), (some (44, false))⟩, ⟨(some 48), .move (.t 4), (some (44, false))⟩, ⟨(some 49), .bin .neq (.t 47) (.t 48), (some (44, false))⟩, ⟨(some 50), .pick (.t 44) (.c (.bool true)) (.t 49), none⟩, ⟨(some 51), .move (.t 50), none⟩, ⟨(some 52), .faddr 4 (.t 1), (some (51, false))⟩, ⟨(some 53), .load (.t 52), (some (51, false))⟩, ⟨(some 54), .lenSl (.t 53), (some (51, false))⟩, ⟨(some 55), .move (.t 4), (some (51, false))⟩, ⟨(some 56), .bin .neq (.t 54) (.t 55), (some (51, false))⟩, ⟨(some 57), .pick (.t 51) (.c (.bool true)) (.t 56), none⟩, ⟨(some 58), .move (.t 57), none⟩, ⟨(some 59), .faddr 5 (.t 1), (some (58, false))⟩, ⟨(some 60), .load (.t 59), (some (58, false))⟩, ⟨(some 61), .lenSl (.t 60), (some (58, false))⟩, ⟨(some 62), .move (.t 4), (some (58, false))⟩, ⟨(some 63), .bin .neq (.t 61) (.t 62), (some (58, false))⟩, ⟨(some 64), .pick (.t 58) (.c (.bool true)) (.t 63), none⟩])
  (.cond (.t 64) (.seq (.reg [⟨(some 65), .build [(.int .i64 (.ofNat 0)), (.int .i64 (.ofNat 0)), (.slice none 0 0), (.slice none 0 0)] [], none⟩, ⟨none, .store 4 (.t 2) (.t 65), none⟩, ⟨(some 3), .move (.c (.bool false)), none⟩])
  .ret) .skip))
  (.seq (.seq (.reg [⟨(some 66), .faddr 1 (.t 1), none⟩, ⟨(some 67), .load (.t 66), none⟩, ⟨(some 68), .lenSl (.t 67), none⟩, ⟨(some 69), .move (.c (.int .i64 (.ofNat 0))), none⟩])
  (.block 0 (.loop (.seq (.reg [⟨(some 70), .bin .lss (.t 69) (.t 68), none⟩])
  (.seq (.cond (.t 70) .skip (.exit 0))
  (.seq (.block 1 (.seq (.reg [⟨(some 71), .iaddr 1 (.t 67) (.t 69), none⟩, ⟨(some 72), .load (.t 71), none⟩, ⟨(some 6), .move (.t 72), none⟩])
  (.seq (.seq (.reg [⟨(some 73), .move (.t 6), none⟩, ⟨(some 74), .lenSl (.t 73), none⟩, ⟨(some 75), .move (.t 4), none⟩, ⟨(some 76), .bin .neq (.t 74) (.t 75), none⟩])
  (.cond (.t 76) (.seq (.reg [⟨(some 77), .build [(.int .i64 (.ofNat 0)), (.int .i64 (.ofNat 0)), (.slice none 0 0), (.slice none 0 0)] [], none⟩, ⟨none, .store 4 (.t 2) (.t 77), none⟩, ⟨(some 3), .move (.c (.bool false)), none⟩])
  .ret) .skip))
  (.seq (.reg [⟨(some 78), .move (.t 6), none⟩, ⟨(some 79), .lenSl (.t 78), none⟩, ⟨(some 80), .move (.c (.int .i64 (.ofNat 0))), none⟩])
  (.block 2 (.loop (.seq (.reg [⟨(some 81), .bin .lss (.t 80) (.t 79), none⟩])
  (.seq (.cond (.t 81) .skip (.exit 2))
  (.seq (.block 3 (.seq (.reg [⟨(some 82), .iaddr 1 (.t 78) (.t 80), none⟩, ⟨(some 83), .load (.t 82), none⟩, ⟨(some 8), .move (.t 83), none⟩])
  (.seq (.reg [⟨(some 84), .move (.t 8), none⟩, ⟨(some 85), .bin .lss (.t 84) (.c (.int .i64 (.ofNat 0))), none⟩, ⟨(some 86), .move (.t 85), none⟩, ⟨(some 87), .move (.t 8), (some (86, false))⟩, ⟨(some 88), .move (.t 4), (some (86, false))⟩, ⟨(some 89), .bin .geq (.t 87) (.t 88), (some (86, false))⟩, ⟨(some 90), .pick (.t 86) (.c (.bool true)) (.t 89), none⟩])
  (.cond (.t 90) (.seq (.reg [⟨(some 91), .build [(.int .i64 (.ofNat 0)), (.int .i64 (.ofNat 0)), (.slice none 0 0), (.slice none 0 0)] [], none⟩, ⟨none, .store 4 (.t 2) (.t 91), none⟩, ⟨(some 3), .move (.c (.bool false)), none⟩])
  .ret) .skip))))
  (.reg [⟨(some 92), .bin .add (.t 80) (.c (.int .i64 (.ofNat 1))), none⟩, ⟨(some 80), .move (.t 92), none⟩]))))))))))
  (.reg [⟨(some 93), .bin .add (.t 69) (.c (.int .i64 (.ofNat 1))), none⟩, ⟨(some 69), .move (.t 93), none⟩])))))))
  (.seq (.seq (.reg [⟨(some 94), .faddr 3 (.t 1), none⟩, ⟨(some 95), .load (.t 94), none⟩, ⟨(some 96), .lenSl (.t 95), none⟩, ⟨(some 97), .move (.c (.int .i64 (.ofNat 0))), none⟩])
  (.block 4 (.loop (.seq (.reg [⟨(some 98), .bin .lss (.t 97) (.t 96), none⟩])
  (.seq (.cond (.t 98) .skip (.exit 4))
  (.seq (.block 5 (.seq (.reg [⟨(some 99), .iaddr 1 (.t 95) (.t 97), none⟩, ⟨(some 100), .load (.t 99), none⟩, ⟨(some 10), .move (.t 100), none⟩])
  (.seq (.reg [⟨(some 101), .move (.t 10), none⟩, ⟨(some 102), .bin .lss (.t 101) (.c (.int .i64 (.ofNat 0))), none⟩, ⟨(some 103), .move (.t 102), none⟩, ⟨(some 104), .move (.t 10), (some (103, false))⟩, ⟨(some 105), .move (.t 4), (some (103, false))⟩, ⟨(some 106), .bin .geq (.t 104) (.t 105), (some (103, false))⟩, ⟨(some 107), .pick (.t 103) (.c (.bool true)) (.t 106), none⟩])
  (.cond (.t 107) (.seq (.reg [⟨(some 108), .build [(.int .i64 (.ofNat 0)), (.int .i64 (.ofNat 0)), (.slice none 0 0), (.slice none 0 0)] [], none⟩, ⟨none, .store 4 (.t 2) (.t 108), none⟩, ⟨(some 3), .move (.c (.bool false)), none⟩])
  .ret) .skip))))
  (.reg [⟨(some 109), .bin .add (.t 97) (.c (.int .i64 (.ofNat 1))), none⟩, ⟨(some 97), .move (.t 109), none⟩])))))))
  (.seq (.draw [(⟨(some 110), .faddr 0 (.t 1), none⟩, 1), (⟨(some 111), .load (.t 110), none⟩, 1), (⟨(some 112), .buildSlice 4 1 0 [] [], none⟩, 0), (⟨(some 113), .faddr 4 (.t 1), none⟩, 0), (⟨(some 114), .load (.t 113), none⟩, 0), (⟨(some 11), .alloc 32 [(.int .i64 (.ofNat 0)), (.int .i64 (.ofNat 0)), (.slice none 0 0), (.slice none 0 0)], none⟩, 1), (⟨(some 115), .append 4 1 1 (.t 112) (.t 114), none⟩, 1), (⟨(some 116), .build [(.int .i64 (.ofNat 0)), (.int .i64 (.ofNat 0)), (.slice none 0 0), (.slice none 0 0)] [(0, 1, (.t 111)), (2, 1, (.t 115))], none⟩, 1), (⟨none, .store 4 (.t 11) (.t 116), none⟩, 2)])
  (.seq (.seq (.reg [⟨(some 117), .faddr 1 (.t 1), none⟩, ⟨(some 118), .load (.t 117), none⟩, ⟨(some 119), .lenSl (.t 118), none⟩, ⟨(some 120), .move (.c (.int .i64 (.ofNat 0))), none⟩])
  (.block 6 (.loop (.seq (.reg [⟨(some 121), .bin .lss (.t 120) (.t 119), none⟩])
  (.seq (.cond (.t 121) .skip (.exit 6))
  (.seq (.block 7 (.seq (.reg [⟨(some 122), .iaddr 1 (.t 118) (.t 120), none⟩, ⟨(some 123), .load (.t 122), none⟩, ⟨(some 13), .move (.t 123), none⟩])
  (.seq (.reg [⟨(some 124), .faddr 0 (.t 1), none⟩, ⟨(some 125), .load (.t 124), none⟩, ⟨(some 126), .mkSlice 3 8 1 [(.int .i64 (.ofNat 0))] (.t 125) (.t 125), none⟩, ⟨(some 14), .move (.t 126), none⟩])
  (.seq (.seq (.reg [⟨(some 127), .faddr 3 (.t 1), none⟩, ⟨(some 128), .load (.t 127), none⟩, ⟨(some 129), .lenSl (.t 128), none⟩, ⟨(some 130), .move (.c (.int .i64 (.ofNat 0))), none⟩])
  (.block 8 (.loop (.seq (.reg [⟨(some 131), .bin .lss (.t 130) (.t 129), none⟩])
  (.seq (.cond (.t 131) .skip (.exit 8))
  (.seq (.block 9 (.seq (.reg [⟨(some 132), .move (.t 130), none⟩, ⟨(some 133), .iaddr 1 (.t 128) (.t 130), none⟩, ⟨(some 134), .load (.t 133), none⟩, ⟨(some 15), .move (.t 132), none⟩, ⟨(some 16), .move (.t 134), none⟩])
  (.reg [⟨(some 135), .move (.t 14), none⟩, ⟨(some 136), .move (.t 15), none⟩, ⟨(some 137), .move (.t 13), none⟩, ⟨(some 138), .move (.t 16), none⟩, ⟨(some 139), .iaddr 1 (.t 137) (.t 138), none⟩, ⟨(some 140), .load (.t 139), none⟩, ⟨(some 141), .iaddr 1 (.t 135) (.t 136), none⟩, ⟨none, .store 1 (.t 141) (.t 140), none⟩])))
  (.reg [⟨(some 142), .bin .add (.t 130) (.c (.int .i64 (.ofNat 1))), none⟩, ⟨(some 130), .move (.t 142), none⟩])))))))
  (.reg [⟨(some 143), .faddr 3 (.t 11), none⟩, ⟨(some 144), .load (.t 143), none⟩, ⟨(some 145), .move (.t 14), none⟩, ⟨(some 146), .buildSlice 22 1 1 [(.slice none 0 0)] [(0, (.t 145))], none⟩, ⟨(some 147), .append 22 1 24 (.t 144) (.t 146), none⟩, ⟨(some 148), .faddr 3 (.t 11), none⟩, ⟨none, .store 1 (.t 148) (.t 147), none⟩])))))
  (.reg [⟨(some 149), .bin .add (.t 120) (.c (.int .i64 (.ofNat 1))), none⟩, ⟨(some 120), .move (.t 149), none⟩])))))))
  (.seq (.reg [⟨(some 150), .loadN 4 (.t 11), none⟩, ⟨none, .store 4 (.t 2) (.t 150), none⟩, ⟨(some 3), .move (.c (.bool true)), none⟩])
  .ret))))))))⟩
theorem c134_ok : cFunc Go.Proofs.Try.prog Go.Proofs.Try.f134 = some c134 := by kernel_rfl
/-- semigroup/syntactic.of -/
def c135 : CFunc := ⟨59, [.cells 6 2, .tmp 3], (.seq (.reg [⟨(some 1), .box 32 (.t 0), none⟩, ⟨(some 2), .alloc 101 [(.int .i64 (.ofNat 0)), (.slice none 0 0), (.slice none 0 0), (.slice none 0 0), (.slice none 0 0), (.slice none 0 0)], none⟩, ⟨(some 3), .move (.c (.int .i64 (.ofNat 0))), none⟩])
  (.seq (.reg [⟨(some 11), .loadN 4 (.t 1), none⟩, ⟨(some 12), .call 78 [(.t 11)], none⟩, ⟨(some 4), .alloc 32 [(.int .i64 (.ofNat 0)), (.int .i64 (.ofNat 0)), (.slice none 0 0), (.slice none 0 0)], none⟩, ⟨none, .store 4 (.t 4) (.t 12), none⟩])
  (.seq (.seq (.reg [⟨(some 13), .faddr 2 (.t 4), none⟩, ⟨(some 14), .load (.t 13), none⟩, ⟨(some 15), .lenSl (.t 14), none⟩, ⟨(some 16), .bin .gtr (.t 15) (.c (.int .i64 (.ofNat 32))), none⟩])
  (.cond (.t 16) (.seq (.reg [⟨(some 17), .build [(.int .i64 (.ofNat 0)), (.slice none 0 0), (.slice none 0 0), (.slice none 0 0), (.slice none 0 0), (.slice none 0 0)] [], none⟩, ⟨none, .store 6 (.t 2) (.t 17), none⟩, ⟨(some 3), .move (.c (.int .i64 (.ofNat 3))), none⟩])
  .ret) .skip))
  (.seq (.reg [⟨(some 19), .loadN 4 (.t 4), none⟩, ⟨(some 20), .call 146 [(.t 19)], none⟩, ⟨(some 18), .move (.t 20), none⟩, ⟨(some 21), .extract 0 (.t 18), none⟩, ⟨(some 22), .extract 1 (.t 18), none⟩, ⟨(some 5), .move (.t 21), none⟩, ⟨(some 6), .move (.t 22), none⟩])
  (.seq (.seq (.reg [⟨(some 23), .move (.t 6), none⟩, ⟨(some 24), .bin .neq (.t 23) (.c (.int .i64 (.ofNat 0))), none⟩])
  (.cond (.t 24) (.seq (.reg [⟨(some 25), .build [(.int .i64 (.ofNat 0)), (.slice none 0 0), (.slice none 0 0), (.slice none 0 0), (.slice none 0 0), (.slice none 0 0)] [], none⟩, ⟨(some 26), .move (.t 6), none⟩, ⟨none, .store 6 (.t 2) (.t 25), none⟩, ⟨(some 3), .move (.t 26), none⟩])
  .ret) .skip))
  (.seq (.reg [⟨(some 28), .move (.t 5), none⟩, ⟨(some 29), .call 147 [(.t 28)], none⟩, ⟨(some 27), .move (.t 29), none⟩, ⟨(some 30), .extract 0 (.t 27), none⟩, ⟨(some 31), .extract 1 (.t 27), none⟩, ⟨(some 32), .extract 2 (.t 27), none⟩, ⟨(some 7), .alloc 101 [(.int .i64 (.ofNat 0)), (.slice none 0 0), (.slice none 0 0), (.slice none 0 0), (.slice none 0 0), (.slice none 0 0)], none⟩, ⟨(some 8), .alloc 163 [(.int .i64 (.ofNat 0)), (.bool false), (.slice none 0 0), (.slice none 0 0), (.slice none 0 0), (.slice none 0 0), (.slice none 0 0), (.slice none 0 0), (.int .i64 (.ofNat 0))], none⟩, ⟨none, .store 6 (.t 7) (.t 30), none⟩, ⟨none, .store 9 (.t 8) (.t 31), none⟩, ⟨(some 6), .move (.t 32), none⟩])
  (.seq (.seq (.reg [⟨(some 33), .move (.t 6), none⟩, ⟨(some 34), .bin .neq (.t 33) (.c (.int .i64 (.ofNat 0))), none⟩])
  (.cond (.t 34) (.seq (.reg [⟨(some 35), .build [(.int .i64 (.ofNat 0)), (.slice none 0 0), (.slice none 0 0), (.slice none 0 0), (.slice none 0 0), (.slice none 0 0)] [], none⟩, ⟨none, .store 6 (.t 2) (.t 35), none⟩, ⟨(some 3), .move (.c (.int .i64 (.ofNat 3))), none⟩])
  .ret) .skip))
  (.seq (.seq (.reg [⟨(some 36), .faddr 3 (.t 8), none⟩, ⟨(some 37), .load (.t 36), none⟩, ⟨(some 38), .lenSl (.t 37), none⟩, ⟨(some 39), .move (.c (.int .i64 (.ofNat 0))), none⟩])
  (.block 0 (.loop (.seq (.reg [⟨(some 40), .bin .lss (.t 39) (.t 38), none⟩])
  (.seq (.cond (.t 40) .skip (.exit 0))
  (.seq (.block 1 (.seq (.reg [⟨(some 41), .iaddr 1 (.t 37) (.t 39), none⟩, ⟨(some 42), .load (.t 41), none⟩, ⟨(some 10), .move (.t 42), none⟩])
  (.draw [(⟨(some 43), .faddr 4 (.t 7), none⟩, 0), (⟨(some 44), .load (.t 43), none⟩, 0), (⟨(some 45), .faddr 2 (.t 4), none⟩, 0), (⟨(some 46), .load (.t 45), none⟩, 0), (⟨(some 47), .move (.t 10), none⟩, 0), (⟨(some 48), .faddr 1 (.t 4), none⟩, 0), (⟨(some 49), .load (.t 48), none⟩, 0), (⟨(some 50), .iaddr 1 (.t 47) (.t 49), none⟩, 0), (⟨(some 51), .load (.t 50), none⟩, 0), (⟨(some 52), .iaddr 1 (.t 46) (.t 51), none⟩, 0), (⟨(some 53), .load (.t 52), none⟩, 0), (⟨(some 54), .buildSlice 4 1 1 [(.bool false)] [(0, (.t 53))], none⟩, 0), (⟨(some 55), .append 4 1 1 (.t 44) (.t 54), none⟩, 1), (⟨(some 56), .faddr 4 (.t 7), none⟩, 1), (⟨none, .store 1 (.t 56) (.t 55), none⟩, 2)])))
  (.reg [⟨(some 57), .bin .add (.t 39) (.c (.int .i64 (.ofNat 1))), none⟩, ⟨(some 39), .move (.t 57), none⟩])))))))
  (.seq (.reg [⟨(some 58), .loadN 6 (.t 7), none⟩, ⟨none, .store 6 (.t 2) (.t 58), none⟩, ⟨(some 3), .move (.c (.int .i64 (.ofNat 0))), none⟩])
  .ret)))))))))⟩
theorem c135_ok : cFunc Go.Proofs.Try.prog Go.Proofs.Try.f135 = some c135 := by kernel_rfl
/-- semigroup/syntactic.same -/
def c136 : CFunc := ⟨101, [.tmp 4], (.seq (.reg [⟨(some 2), .box 101 (.t 0), none⟩, ⟨(some 3), .box 101 (.t 1), none⟩, ⟨(some 4), .move (.c (.bool false)), none⟩])
  (.seq (.seq (.reg [⟨(some 8), .faddr 1 (.t 2), none⟩, ⟨(some 9), .load (.t 8), none⟩, ⟨(some 10), .lenSl (.t 9), none⟩, ⟨(some 11), .faddr 1 (.t 3), none⟩, ⟨(some 12), .load (.t 11), none⟩, ⟨(some 13), .lenSl (.t 12), none⟩, ⟨(some 14), .bin .neq (.t 10) (.t 13), none⟩])
  (.cond (.t 14) (.seq (.reg [⟨(some 4), .move (.c (.bool false)), none⟩])
  .ret) .skip))
  (.seq (.seq (.reg [⟨(some 15), .faddr 1 (.t 2), none⟩, ⟨(some 16), .load (.t 15), none⟩, ⟨(some 17), .lenSl (.t 16), none⟩, ⟨(some 18), .move (.c (.int .i64 (.ofNat 0))), none⟩])
  (.block 0 (.loop (.seq (.reg [⟨(some 19), .bin .lss (.t 18) (.t 17), none⟩])
  (.seq (.cond (.t 19) .skip (.exit 0))
  (.seq (.block 1 (.seq (.reg [⟨(some 20), .move (.t 18), none⟩, ⟨(some 5), .move (.t 20), none⟩])
  (.seq (.seq (.draw [(⟨(some 21), .faddr 2 (.t 2), none⟩, 0), (⟨(some 22), .load (.t 21), none⟩, 0), (⟨(some 23), .move (.t 5), none⟩, 0), (⟨(some 24), .iaddr 1 (.t 22) (.t 23), none⟩, 0), (⟨(some 25), .load (.t 24), none⟩, 0), (⟨(some 26), .faddr 2 (.t 3), none⟩, 0), (⟨(some 27), .load (.t 26), none⟩, 0), (⟨(some 28), .move (.t 5), none⟩, 0), (⟨(some 29), .iaddr 1 (.t 27) (.t 28), none⟩, 0), (⟨(some 30), .load (.t 29), none⟩, 0), (⟨(some 31), .bin .neq (.t 25) (.t 30), none⟩, 0), (⟨(some 32), .move (.t 31), none⟩, 0), (⟨(some 33), .faddr 4 (.t 2), (some (32, false))⟩, 0), (⟨(some 34), .load (.t 33), (some (32, false))⟩, 0), (⟨(some 35), .move (.t 5), (some (32, false))⟩, 0), (⟨(some 36), .iaddr 1 (.t 34) (.t 35), (some (32, false))⟩, 0), (⟨(some 37), .load (.t 36), (some (32, false))⟩, 0), (⟨(some 38), .faddr 4 (.t 3), (some (32, false))⟩, 0), (⟨(some 39), .load (.t 38), (some (32, false))⟩, 0), (⟨(some 40), .move (.t 5), (some (32, false))⟩, 0), (⟨(some 41), .iaddr 1 (.t 39) (.t 40), (some (32, false))⟩, 0), (⟨(some 42), .load (.t 41), (some (32, false))⟩, 0), (⟨(some 43), .eqB true (.t 37) (.t 42), (some (32, false))⟩, 0), (⟨(some 44), .pick (.t 32) (.c (.bool true)) (.t 43), none⟩, 0), (⟨(some 45), .move (.t 44), none⟩, 0), (⟨(some 46), .faddr 5 (.t 2), (some (45, false))⟩, 0), (⟨(some 47), .load (.t 46), (some (45, false))⟩, 0), (⟨(some 48), .move (.t 5), (some (45, false))⟩, 0), (⟨(some 49), .iaddr 1 (.t 47) (.t 48), (some (45, false))⟩, 0), (⟨(some 50), .load (.t 49), (some (45, false))⟩, 0), (⟨(some 51), .faddr 5 (.t 3), (some (45, false))⟩, 0), (⟨(some 52), .load (.t 51), (some (45, false))⟩, 0), (⟨(some 53), .move (.t 5), (some (45, false))⟩, 0), (⟨(some 54), .iaddr 1 (.t 52) (.t 53), (some (45, false))⟩, 0), (⟨(some 55), .load (.t 54), (some (45, false))⟩, 0), (⟨(some 56), .eqB true (.t 50) (.t 55), (some (45, false))⟩, 0), (⟨(some 57), .pick (.t 45) (.c (.bool true)) (.t 56), none⟩, 0)])
  (.cond (.t 57) (.seq (.reg [⟨(some 4), .move (.c (.bool false)), none⟩])
  .ret) .skip))
  (.seq (.reg [⟨(some 58), .faddr 1 (.t 2), none⟩, ⟨(some 59), .load (.t 58), none⟩, ⟨(some 60), .lenSl (.t 59), none⟩, ⟨(some 61), .move (.c (.int .i64 (.ofNat 0))), none⟩])
  (.block 2 (.loop (.seq (.reg [⟨(some 62), .bin .lss (.t 61) (.t 60), none⟩])
  (.seq (.cond (.t 62) .skip (.exit 2))
  (.seq (.block 3 (.seq (.reg [⟨(some 63), .move (.t 61), none⟩, ⟨(some 6), .move (.t 63), none⟩])
  (.seq (.draw [(⟨(some 64), .faddr 1 (.t 2), none⟩, 0), (⟨(some 65), .load (.t 64), none⟩, 0), (⟨(some 66), .move (.t 5), none⟩, 0), (⟨(some 67), .iaddr 1 (.t 65) (.t 66), none⟩, 0), (⟨(some 68), .load (.t 67), none⟩, 0), (⟨(some 69), .move (.t 6), none⟩, 0), (⟨(some 70), .iaddr 1 (.t 68) (.t 69), none⟩, 0), (⟨(some 71), .load (.t 70), none⟩, 0), (⟨(some 72), .faddr 1 (.t 3), none⟩, 0), (⟨(some 73), .load (.t 72), none⟩, 0), (⟨(some 74), .move (.t 5), none⟩, 0), (⟨(some 75), .iaddr 1 (.t 73) (.t 74), none⟩, 0), (⟨(some 76), .load (.t 75), none⟩, 0), (⟨(some 77), .move (.t 6), none⟩, 0), (⟨(some 78), .iaddr 1 (.t 76) (.t 77), none⟩, 0), (⟨(some 79), .load (.t 78), none⟩, 0), (⟨(some 80), .bin .neq (.t 71) (.t 79), none⟩, 0)])
  (.cond (.t 80) (.seq (.reg [⟨(some 4), .move (.c (.bool false)), none⟩])
  .ret) .skip))))
  (.reg [⟨(some 81), .bin .add (.t 61) (.c (.int .i64 (.ofNat 1))), none⟩, ⟨(some 61), .move (.t 81), none⟩]))))))))))
  (.reg [⟨(some 82), .bin .add (.t 18) (.c (.int .i64 (.ofNat 1))), none⟩, ⟨(some 18), .move (.t 82), none⟩])))))))
  (.seq (.seq (.reg [⟨(some 83), .faddr 3 (.t 2), none⟩, ⟨(some 84), .load (.t 83), none⟩, ⟨(some 85), .lenSl (.t 84), none⟩, ⟨(some 86), .move (.c (.int .i64 (.ofNat 0))), none⟩])
  (.block 4 (.loop (.seq (.reg [⟨(some 87), .bin .lss (.t 86) (.t 85), none⟩])
  (.seq (.cond (.t 87) .skip (.exit 4))
  (.seq (.block 5 (.seq (.reg [⟨(some 88), .move (.t 86), none⟩, ⟨(some 7), .move (.t 88), none⟩])
  (.seq (.draw [(⟨(some 89), .faddr 3 (.t 2), none⟩, 0), (⟨(some 90), .load (.t 89), none⟩, 0), (⟨(some 91), .move (.t 7), none⟩, 0), (⟨(some 92), .iaddr 1 (.t 90) (.t 91), none⟩, 0), (⟨(some 93), .load (.t 92), none⟩, 0), (⟨(some 94), .faddr 3 (.t 3), none⟩, 0), (⟨(some 95), .load (.t 94), none⟩, 0), (⟨(some 96), .move (.t 7), none⟩, 0), (⟨(some 97), .iaddr 1 (.t 95) (.t 96), none⟩, 0), (⟨(some 98), .load (.t 97), none⟩, 0), (⟨(some 99), .bin .neq (.t 93) (.t 98), none⟩, 0)])
  (.cond (.t 99) (.seq (.reg [⟨(some 4), .move (.c (.bool false)), none⟩])
  .ret) .skip))))
  (.reg [⟨(some 100), .bin .add (.t 86) (.c (.int .i64 (.ofNat 1))), none⟩, ⟨(some 86), .move (.t 100), none⟩])))))))
  (.seq (.reg [⟨(some 4), .move (.c (.bool true)), none⟩])
  .ret)))))⟩
theorem c136_ok : cFunc Go.Proofs.Try.prog Go.Proofs.Try.f136 = some c136 := by kernel_rfl
/-- semigroup/mult.shape -/
def c137 : CFunc := ⟨42, [.tmp 2], (.seq (.reg [⟨(some 2), .move (.c (.int .i64 (.ofNat 0))), none⟩])
  (.seq (.block 0 (.seq (.reg [⟨(some 8), .move (.t 0), none⟩, ⟨(some 9), .lenSl (.t 8), none⟩, ⟨(some 10), .bin .gtr (.t 9) (.c (.int .i64 (.ofNat 400))), none⟩, ⟨(some 7), .move (.t 10), none⟩])
  (.cond (.t 7) (.seq (.reg [⟨(some 2), .move (.c (.int .i64 (.ofNat 3))), none⟩])
  .ret) (.seq (.reg [⟨(some 12), .move (.t 0), none⟩, ⟨(some 13), .lenSl (.t 12), none⟩, ⟨(some 14), .bin .eql (.t 13) (.c (.int .i64 (.ofNat 0))), none⟩, ⟨(some 11), .move (.t 14), none⟩])
  (.cond (.t 11) (.seq (.reg [⟨(some 2), .move (.c (.int .i64 (.ofNat 4))), none⟩])
  .ret) .skip)))))
  (.seq (.seq (.reg [⟨(some 15), .move (.t 0), none⟩, ⟨(some 16), .lenSl (.t 15), none⟩, ⟨(some 17), .move (.c (.int .i64 (.ofNat 0))), none⟩])
  (.block 1 (.loop (.seq (.reg [⟨(some 18), .bin .lss (.t 17) (.t 16), none⟩])
  (.seq (.cond (.t 18) .skip (.exit 1))
  (.seq (.block 2 (.seq (.reg [⟨(some 19), .iaddr 1 (.t 15) (.t 17), none⟩, ⟨(some 20), .load (.t 19), none⟩, ⟨(some 4), .move (.t 20), none⟩])
  (.seq (.seq (.reg [⟨(some 21), .move (.t 4), none⟩, ⟨(some 22), .lenSl (.t 21), none⟩, ⟨(some 23), .move (.t 0), none⟩, ⟨(some 24), .lenSl (.t 23), none⟩, ⟨(some 25), .bin .neq (.t 22) (.t 24), none⟩])
  (.cond (.t 25) (.seq (.reg [⟨(some 2), .move (.c (.int .i64 (.ofNat 4))), none⟩])
  .ret) .skip))
  (.seq (.reg [⟨(some 26), .move (.t 4), none⟩, ⟨(some 27), .lenSl (.t 26), none⟩, ⟨(some 28), .move (.c (.int .i64 (.ofNat 0))), none⟩])
  (.block 3 (.loop (.seq (.reg [⟨(some 29), .bin .lss (.t 28) (.t 27), none⟩])
  (.seq (.cond (.t 29) .skip (.exit 3))
  (.seq (.block 4 (.seq (.reg [⟨(some 30), .iaddr 1 (.t 26) (.t 28), none⟩, ⟨(some 31), .load (.t 30), none⟩, ⟨(some 6), .move (.t 31), none⟩])
  (.seq (.reg [⟨(some 32), .move (.t 6), none⟩, ⟨(some 33), .bin .lss (.t 32) (.c (.int .i64 (.ofNat 0))), none⟩, ⟨(some 34), .move (.t 33), none⟩, ⟨(some 35), .move (.t 6), (some (34, false))⟩, ⟨(some 36), .move (.t 0), (some (34, false))⟩, ⟨(some 37), .lenSl (.t 36), (some (34, false))⟩, ⟨(some 38), .bin .geq (.t 35) (.t 37), (some (34, false))⟩, ⟨(some 39), .pick (.t 34) (.c (.bool true)) (.t 38), none⟩])
  (.cond (.t 39) (.seq (.reg [⟨(some 2), .move (.c (.int .i64 (.ofNat 4))), none⟩])
  .ret) .skip))))
  (.reg [⟨(some 40), .bin .add (.t 28) (.c (.int .i64 (.ofNat 1))), none⟩, ⟨(some 28), .move (.t 40), none⟩]))))))))))
  (.reg [⟨(some 41), .bin .add (.t 17) (.c (.int .i64 (.ofNat 1))), none⟩, ⟨(some 17), .move (.t 41), none⟩])))))))
  (.seq (.reg [⟨(some 2), .move (.c (.int .i64 (.ofNat 0))), none⟩])
  .ret))))⟩
theorem c137_ok : cFunc Go.Proofs.Try.prog Go.Proofs.Try.f137 = some c137 := by kernel_rfl
/-- semigroup/mult.failing -/
def c138 : CFunc := ⟨57, [.tmp 2, .tmp 3, .tmp 4, .tmp 5], (.seq (.reg [⟨(some 2), .move (.c (.int .i64 (.ofNat 0))), none⟩, ⟨(some 3), .move (.c (.int .i64 (.ofNat 0))), none⟩, ⟨(some 4), .move (.c (.int .i64 (.ofNat 0))), none⟩, ⟨(some 5), .move (.c (.bool false)), none⟩])
  (.seq (.seq (.reg [⟨(some 9), .move (.t 0), none⟩, ⟨(some 10), .lenSl (.t 9), none⟩, ⟨(some 11), .move (.c (.int .i64 (.ofNat 0))), none⟩])
  (.block 0 (.loop (.seq (.reg [⟨(some 12), .bin .lss (.t 11) (.t 10), none⟩])
  (.seq (.cond (.t 12) .skip (.exit 0))
  (.seq (.block 1 (.seq (.reg [⟨(some 13), .move (.t 11), none⟩, ⟨(some 6), .move (.t 13), none⟩])
  (.seq (.reg [⟨(some 14), .move (.t 0), none⟩, ⟨(some 15), .lenSl (.t 14), none⟩, ⟨(some 16), .move (.c (.int .i64 (.ofNat 0))), none⟩])
  (.block 2 (.loop (.seq (.reg [⟨(some 17), .bin .lss (.t 16) (.t 15), none⟩])
  (.seq (.cond (.t 17) .skip (.exit 2))
  (.seq (.block 3 (.seq (.reg [⟨(some 18), .move (.t 16), none⟩, ⟨(some 7), .move (.t 18), none⟩])
  (.seq (.reg [⟨(some 19), .move (.t 0), none⟩, ⟨(some 20), .lenSl (.t 19), none⟩, ⟨(some 21), .move (.c (.int .i64 (.ofNat 0))), none⟩])
  (.block 4 (.loop (.seq (.reg [⟨(some 22), .bin .lss (.t 21) (.t 20), none⟩])
  (.seq (.cond (.t 22) .skip (.exit 4))
  (.seq (.block 5 (.seq (.reg [⟨(some 23), .move (.t 21), none⟩, ⟨(some 8), .move (.t 23), none⟩])
  (.seq (.draw [(⟨(some 24), .move (.t 0), none⟩, 0), (⟨(some 25), .move (.t 0), none⟩, 0), (⟨(some 26), .move (.t 6), none⟩, 0), (⟨(some 27), .iaddr 1 (.t 25) (.t 26), none⟩, 0), (⟨(some 28), .load (.t 27), none⟩, 0), (⟨(some 29), .move (.t 7), none⟩, 0), (⟨(some 30), .iaddr 1 (.t 28) (.t 29), none⟩, 0), (⟨(some 31), .load (.t 30), none⟩, 0), (⟨(some 32), .iaddr 1 (.t 24) (.t 31), none⟩, 0), (⟨(some 33), .load (.t 32), none⟩, 0), (⟨(some 34), .move (.t 8), none⟩, 0), (⟨(some 35), .iaddr 1 (.t 33) (.t 34), none⟩, 0), (⟨(some 36), .load (.t 35), none⟩, 0), (⟨(some 37), .move (.t 0), none⟩, 0), (⟨(some 38), .move (.t 6), none⟩, 0), (⟨(some 39), .iaddr 1 (.t 37) (.t 38), none⟩, 0), (⟨(some 40), .load (.t 39), none⟩, 0), (⟨(some 41), .move (.t 0), none⟩, 0), (⟨(some 42), .move (.t 7), none⟩, 0), (⟨(some 43), .iaddr 1 (.t 41) (.t 42), none⟩, 0), (⟨(some 44), .load (.t 43), none⟩, 0), (⟨(some 45), .move (.t 8), none⟩, 0), (⟨(some 46), .iaddr 1 (.t 44) (.t 45), none⟩, 0), (⟨(some 47), .load (.t 46), none⟩, 0), (⟨(some 48), .iaddr 1 (.t 40) (.t 47), none⟩, 0), (⟨(some 49), .load (.t 48), none⟩, 0), (⟨(some 50), .bin .neq (.t 36) (.t 49), none⟩, 0)])
  (.cond (.t 50) (.seq (.reg [⟨(some 51), .move (.t 6), none⟩, ⟨(some 52), .move (.t 7), none⟩, ⟨(some 53), .move (.t 8), none⟩, ⟨(some 2), .move (.t 51), none⟩, ⟨(some 3), .move (.t 52), none⟩, ⟨(some 4), .move (.t 53), none⟩, ⟨(some 5), .move (.c (.bool true)), none⟩])
  .ret) .skip))))
  (.reg [⟨(some 54), .bin .add (.t 21) (.c (.int .i64 (.ofNat 1))), none⟩, ⟨(some 21), .move (.t 54), none⟩])))))))))
  (.reg [⟨(some 55), .bin .add (.t 16) (.c (.int .i64 (.ofNat 1))), none⟩, ⟨(some 16), .move (.t 55), none⟩])))))))))
  (.reg [⟨(some 56), .bin .add (.t 11) (.c (.int .i64 (.ofNat 1))), none⟩, ⟨(some 11), .move (.t 56), none⟩])))))))
  (.seq (.reg [⟨(some 2), .move (.c (.int .i64 (.ofNat 0))), none⟩, ⟨(some 3), .move (.c (.int .i64 (.ofNat 0))), none⟩, ⟨(some 4), .move (.c (.int .i64 (.ofNat 0))), none⟩, ⟨(some 5), .move (.c (.bool false)), none⟩])
  .ret)))⟩
theorem c138_ok : cFunc Go.Proofs.Try.prog Go.Proofs.Try.f138 = some c138 := by kernel_rfl
/-- semigroup/dfa.search -/
def c139 : CFunc := ⟨79, [.tmp 2, .tmp 3, .tmp 4, .tmp 5], (.seq (.reg [⟨(some 1), .box 32 (.t 0), none⟩, ⟨(some 2), .move (.c (.slice none 0 0)), none⟩, ⟨(some 3), .move (.c (.slice none 0 0)), none⟩, ⟨(some 4), .move (.c (.slice none 0 0)), none⟩, ⟨(some 5), .move (.c (.slice none 0 0)), none⟩])
  (.seq (.reg [⟨(some 10), .faddr 2 (.t 1), none⟩, ⟨(some 11), .load (.t 10), none⟩, ⟨(some 12), .lenSl (.t 11), none⟩, ⟨(some 13), .mkSlice 3 8 1 [(.int .i64 (.ofNat 0))] (.t 12) (.t 12), none⟩, ⟨(some 5), .move (.t 13), none⟩])
  (.seq (.seq (.reg [⟨(some 14), .move (.t 5), none⟩, ⟨(some 15), .lenSl (.t 14), none⟩, ⟨(some 16), .move (.c (.int .i64 (.ofNat 0))), none⟩])
  (.block 0 (.loop (.seq (.reg [⟨(some 17), .bin .lss (.t 16) (.t 15), none⟩])
  (.seq (.cond (.t 17) .skip (.exit 0))
  (.seq (.block 1 (.seq (.reg [⟨(some 18), .move (.t 16), none⟩, ⟨(some 6), .move (.t 18), none⟩])
  (.reg [⟨(some 19), .move (.t 5), none⟩, ⟨(some 20), .move (.t 6), none⟩, ⟨(some 21), .iaddr 1 (.t 19) (.t 20), none⟩, ⟨none, .store 1 (.t 21) (.c (.int .i64 (.negSucc 0))), none⟩])))
  (.reg [⟨(some 22), .bin .add (.t 16) (.c (.int .i64 (.ofNat 1))), none⟩, ⟨(some 16), .move (.t 22), none⟩])))))))
  (.seq (.reg [⟨(some 23), .move (.t 5), none⟩, ⟨(some 24), .faddr 1 (.t 1), none⟩, ⟨(some 25), .load (.t 24), none⟩, ⟨(some 26), .iaddr 1 (.t 23) (.t 25), none⟩, ⟨none, .store 1 (.t 26) (.c (.int .i64 (.ofNat 0))), none⟩])
  (.seq (.reg [⟨(some 27), .faddr 1 (.t 1), none⟩, ⟨(some 28), .load (.t 27), none⟩, ⟨(some 29), .buildSlice 3 1 1 [(.int .i64 (.ofNat 0))] [(0, (.t 28))], none⟩, ⟨(some 30), .buildSlice 3 1 1 [(.int .i64 (.ofNat 0))] [(0, (.c (.int .i64 (.negSucc 0))))], none⟩, ⟨(some 31), .buildSlice 3 1 1 [(.int .i64 (.ofNat 0))] [(0, (.c (.int .i64 (.negSucc 0))))], none⟩, ⟨(some 2), .move (.t 29), none⟩, ⟨(some 3), .move (.t 30), none⟩, ⟨(some 4), .move (.t 31), none⟩])
  (.seq (.seq (.reg [⟨(some 7), .move (.c (.int .i64 (.ofNat 0))), none⟩])
  (.block 2 (.loop (.seq (.seq (.reg [⟨(some 32), .move (.t 7), none⟩, ⟨(some 33), .move (.t 2), none⟩, ⟨(some 34), .lenSl (.t 33), none⟩, ⟨(some 35), .bin .lss (.t 32) (.t 34), none⟩])
  (.cond (.t 35) .skip (.exit 2)))
  (.seq (.block 3 (.seq (.draw [(⟨(some 38), .faddr 3 (.t 1), none⟩, 0), (⟨(some 39), .load (.t 38), none⟩, 0), (⟨(some 40), .move (.t 2), none⟩, 0), (⟨(some 41), .move (.t 7), none⟩, 0), (⟨(some 42), .iaddr 1 (.t 40) (.t 41), none⟩, 0), (⟨(some 43), .load (.t 42), none⟩, 0), (⟨(some 44), .iaddr 1 (.t 39) (.t 43), none⟩, 0), (⟨(some 45), .load (.t 44), none⟩, 0), (⟨(some 46), .lenSl (.t 45), none⟩, 0), (⟨(some 47), .move (.c (.int .i64 (.ofNat 0))), none⟩, 0)])
  (.block 4 (.loop (.seq (.reg [⟨(some 48), .bin .lss (.t 47) (.t 46), none⟩])
  (.seq (.cond (.t 48) .skip (.exit 4))
  (.seq (.block 5 (.seq (.reg [⟨(some 49), .move (.t 47), none⟩, ⟨(some 50), .iaddr 1 (.t 45) (.t 47), none⟩, ⟨(some 51), .load (.t 50), none⟩, ⟨(some 8), .move (.t 49), none⟩, ⟨(some 9), .move (.t 51), none⟩])
  (.seq (.reg [⟨(some 52), .move (.t 5), none⟩, ⟨(some 53), .move (.t 9), none⟩, ⟨(some 54), .iaddr 1 (.t 52) (.t 53), none⟩, ⟨(some 55), .load (.t 54), none⟩, ⟨(some 56), .bin .lss (.t 55) (.c (.int .i64 (.ofNat 0))), none⟩])
  (.cond (.t 56) (.seq (.reg [⟨(some 57), .move (.t 5), none⟩, ⟨(some 58), .move (.t 9), none⟩, ⟨(some 59), .move (.t 2), none⟩, ⟨(some 60), .lenSl (.t 59), none⟩, ⟨(some 61), .iaddr 1 (.t 57) (.t 58), none⟩, ⟨none, .store 1 (.t 61) (.t 60), none⟩])
  (.reg [⟨(some 62), .move (.t 2), none⟩, ⟨(some 63), .move (.t 9), none⟩, ⟨(some 64), .buildSlice 3 1 1 [(.int .i64 (.ofNat 0))] [(0, (.t 63))], none⟩, ⟨(some 65), .append 3 1 8 (.t 62) (.t 64), none⟩, ⟨(some 66), .move (.t 3), none⟩, ⟨(some 67), .move (.t 7), none⟩, ⟨(some 68), .buildSlice 3 1 1 [(.int .i64 (.ofNat 0))] [(0, (.t 67))], none⟩, ⟨(some 69), .append 3 1 8 (.t 66) (.t 68), none⟩, ⟨(some 70), .move (.t 4), none⟩, ⟨(some 71), .move (.t 8), none⟩, ⟨(some 72), .buildSlice 3 1 1 [(.int .i64 (.ofNat 0))] [(0, (.t 71))], none⟩, ⟨(some 73), .append 3 1 8 (.t 70) (.t 72), none⟩, ⟨(some 2), .move (.t 65), none⟩, ⟨(some 3), .move (.t 69), none⟩, ⟨(some 4), .move (.t 73), none⟩])) .skip))))
  (.reg [⟨(some 74), .bin .add (.t 47) (.c (.int .i64 (.ofNat 1))), none⟩, ⟨(some 47), .move (.t 74), none⟩]))))))))
  (.reg [⟨(some 36), .move (.t 7), none⟩, ⟨(some 37), .bin .add (.t 36) (.c (.int .i64 (.ofNat 1))), none⟩, ⟨(some 7), .move (.t 37), none⟩]))))))
  (.seq (.reg [⟨(some 75), .move (.t 2), none⟩, ⟨(some 76), .move (.t 3), none⟩, ⟨(some 77), .move (.t 4), none⟩, ⟨(some 78), .move (.t 5), none⟩, ⟨(some 2), .move (.t 75), none⟩, ⟨(some 3), .move (.t 76), none⟩, ⟨(some 4), .move (.t 77), none⟩, ⟨(some 5), .move (.t 78), none⟩])
  .ret)))))))⟩
theorem c139_ok : cFunc Go.Proofs.Try.prog Go.Proofs.Try.f139 = some c139 := by kernel_rfl
/-- semigroup/partition.Canonical -/
def c140 : CFunc := ⟨42, [.tmp 2], (.seq (.reg [⟨(some 2), .move (.c (.slice none 0 0)), none⟩])
  (.seq (.seq (.reg [⟨(some 9), .move (.t 0), none⟩, ⟨(some 10), .lenSl (.t 9), none⟩, ⟨(some 11), .bin .gtr (.t 10) (.c (.int .i64 (.ofNat 4096))), none⟩])
  (.cond (.t 11) (.seq (.reg [⟨(some 2), .move (.c (.slice none 0 0)), none⟩])
  .ret) .skip))
  (.seq (.reg [⟨(some 12), .mkMap, none⟩, ⟨(some 3), .move (.t 12), none⟩])
  (.seq (.reg [⟨(some 13), .move (.t 0), none⟩, ⟨(some 14), .lenSl (.t 13), none⟩, ⟨(some 15), .mkSlice 3 8 1 [(.int .i64 (.ofNat 0))] (.t 14) (.t 14), none⟩, ⟨(some 4), .move (.t 15), none⟩])
  (.seq (.seq (.reg [⟨(some 16), .move (.t 0), none⟩, ⟨(some 17), .lenSl (.t 16), none⟩, ⟨(some 18), .move (.c (.int .i64 (.ofNat 0))), none⟩])
  (.block 0 (.loop (.seq (.reg [⟨(some 19), .bin .lss (.t 18) (.t 17), none⟩])
  (.seq (.cond (.t 19) .skip (.exit 0))
  (.seq (.block 1 (.seq (.reg [⟨(some 20), .move (.t 18), none⟩, ⟨(some 21), .iaddr 1 (.t 16) (.t 18), none⟩, ⟨(some 22), .load (.t 21), none⟩, ⟨(some 5), .move (.t 20), none⟩, ⟨(some 6), .move (.t 22), none⟩])
  (.seq (.reg [⟨(some 24), .move (.t 3), none⟩, ⟨(some 25), .move (.t 6), none⟩, ⟨(some 26), .lookup (.one .int) (.int .i64 (.ofNat 0)) true (.t 24) (.t 25), none⟩, ⟨(some 23), .move (.t 26), none⟩, ⟨(some 27), .extract 0 (.t 23), none⟩, ⟨(some 28), .extract 1 (.t 23), none⟩, ⟨(some 7), .move (.t 27), none⟩, ⟨(some 8), .move (.t 28), none⟩])
  (.seq (.seq (.reg [⟨(some 29), .move (.t 8), none⟩, ⟨(some 30), .not (.t 29), none⟩])
  (.cond (.t 30) (.seq (.reg [⟨(some 31), .move (.t 3), none⟩, ⟨(some 32), .lenMap (.t 31), none⟩, ⟨(some 7), .move (.t 32), none⟩])
  (.reg [⟨(some 33), .move (.t 3), none⟩, ⟨(some 34), .move (.t 6), none⟩, ⟨(some 35), .move (.t 7), none⟩, ⟨none, .mapSet (.one .int) (.t 33) (.t 34) (.t 35), none⟩])) .skip))
  (.reg [⟨(some 36), .move (.t 4), none⟩, ⟨(some 37), .move (.t 5), none⟩, ⟨(some 38), .move (.t 7), none⟩, ⟨(some 39), .iaddr 1 (.t 36) (.t 37), none⟩, ⟨none, .store 1 (.t 39) (.t 38), none⟩])))))
  (.reg [⟨(some 40), .bin .add (.t 18) (.c (.int .i64 (.ofNat 1))), none⟩, ⟨(some 18), .move (.t 40), none⟩])))))))
  (.seq (.reg [⟨(some 41), .move (.t 4), none⟩, ⟨(some 2), .move (.t 41), none⟩])
  .ret))))))⟩
theorem c140_ok : cFunc Go.Proofs.Try.prog Go.Proofs.Try.f140 = some c140 := by kernel_rfl
/-- semigroup/partition.Valid -/
def c141 : CFunc := ⟨28, [.tmp 2], (.seq (.reg [⟨(some 2), .move (.c (.bool false)), none⟩])
  (.seq (.seq (.reg [⟨(some 6), .move (.t 0), none⟩, ⟨(some 7), .lenSl (.t 6), none⟩, ⟨(some 8), .bin .gtr (.t 7) (.c (.int .i64 (.ofNat 4096))), none⟩])
  (.cond (.t 8) (.seq (.reg [⟨(some 2), .move (.c (.bool false)), none⟩])
  .ret) .skip))
  (.seq (.reg [⟨(some 3), .move (.c (.int .i64 (.ofNat 0))), none⟩])
  (.seq (.seq (.reg [⟨(some 9), .move (.t 0), none⟩, ⟨(some 10), .lenSl (.t 9), none⟩, ⟨(some 11), .move (.c (.int .i64 (.ofNat 0))), none⟩])
  (.block 0 (.loop (.seq (.reg [⟨(some 12), .bin .lss (.t 11) (.t 10), none⟩])
  (.seq (.cond (.t 12) .skip (.exit 0))
  (.seq (.block 1 (.seq (.reg [⟨(some 13), .iaddr 1 (.t 9) (.t 11), none⟩, ⟨(some 14), .load (.t 13), none⟩, ⟨(some 5), .move (.t 14), none⟩])
  (.seq (.seq (.reg [⟨(some 15), .move (.t 5), none⟩, ⟨(some 16), .bin .lss (.t 15) (.c (.int .i64 (.ofNat 0))), none⟩, ⟨(some 17), .move (.t 16), none⟩, ⟨(some 18), .move (.t 5), (some (17, false))⟩, ⟨(some 19), .move (.t 3), (some (17, false))⟩, ⟨(some 20), .bin .gtr (.t 18) (.t 19), (some (17, false))⟩, ⟨(some 21), .pick (.t 17) (.c (.bool true)) (.t 20), none⟩])
  (.cond (.t 21) (.seq (.reg [⟨(some 2), .move (.c (.bool false)), none⟩])
  .ret) .skip))
  (.seq (.reg [⟨(some 22), .move (.t 5), none⟩, ⟨(some 23), .move (.t 3), none⟩, ⟨(some 24), .bin .eql (.t 22) (.t 23), none⟩])
  (.cond (.t 24) (.reg [⟨(some 25), .move (.t 3), none⟩, ⟨(some 26), .bin .add (.t 25) (.c (.int .i64 (.ofNat 1))), none⟩, ⟨(some 3), .move (.t 26), none⟩]) .skip)))))
  (.reg [⟨(some 27), .bin .add (.t 11) (.c (.int .i64 (.ofNat 1))), none⟩, ⟨(some 11), .move (.t 27), none⟩])))))))
  (.seq (.reg [⟨(some 2), .move (.c (.bool true)), none⟩])
  .ret)))))⟩
theorem c141_ok : cFunc Go.Proofs.Try.prog Go.Proofs.Try.f141 = some c141 := by kernel_rfl
/-- semigroup/semigroupref11.MayGens -/
def c142 : CFunc := ⟨32, [.tmp 2], (.seq (.reg [⟨(some 2), .move (.c (.bool false)), none⟩])
  (.seq (.seq (.reg [⟨(some 5), .move (.t 0), none⟩, ⟨(some 6), .lenSl (.t 5), none⟩, ⟨(some 7), .bin .lss (.t 6) (.c (.int .i64 (.ofNat 1))), none⟩, ⟨(some 8), .move (.t 7), none⟩, ⟨(some 9), .move (.t 0), (some (8, false))⟩, ⟨(some 10), .lenSl (.t 9), (some (8, false))⟩, ⟨(some 11), .bin .gtr (.t 10) (.c (.int .i64 (.ofNat 6))), (some (8, false))⟩, ⟨(some 12), .pick (.t 8) (.c (.bool true)) (.t 11), none⟩])
  (.cond (.t 12) (.seq (.reg [⟨(some 2), .move (.c (.bool false)), none⟩])
  .ret) .skip))
  (.seq (.seq (.reg [⟨(some 13), .move (.t 0), none⟩, ⟨(some 14), .lenSl (.t 13), none⟩, ⟨(some 15), .move (.c (.int .i64 (.ofNat 0))), none⟩])
  (.block 0 (.loop (.seq (.reg [⟨(some 16), .bin .lss (.t 15) (.t 14), none⟩])
  (.seq (.cond (.t 16) .skip (.exit 0))
  (.seq (.block 1 (.seq (.reg [⟨(some 17), .iaddr 1 (.t 13) (.t 15), none⟩, ⟨(some 18), .load (.t 17), none⟩, ⟨(some 4), .move (.t 18), none⟩])
  (.seq (.reg [⟨(some 19), .move (.t 4), none⟩, ⟨(some 20), .call 148 [(.t 19)], none⟩, ⟨(some 21), .not (.t 20), none⟩, ⟨(some 22), .move (.t 21), none⟩, ⟨(some 23), .move (.t 4), (some (22, false))⟩, ⟨(some 24), .lenSl (.t 23), (some (22, false))⟩, ⟨(some 25), .move (.t 0), (some (22, false))⟩, ⟨(some 26), .iaddr 1 (.t 25) (.c (.int .i64 (.ofNat 0))), (some (22, false))⟩, ⟨(some 27), .load (.t 26), (some (22, false))⟩, ⟨(some 28), .lenSl (.t 27), (some (22, false))⟩, ⟨(some 29), .bin .neq (.t 24) (.t 28), (some (22, false))⟩, ⟨(some 30), .pick (.t 22) (.c (.bool true)) (.t 29), none⟩])
  (.cond (.t 30) (.seq (.reg [⟨(some 2), .move (.c (.bool false)), none⟩])
  .ret) .skip))))
  (.reg [⟨(some 31), .bin .add (.t 15) (.c (.int .i64 (.ofNat 1))), none⟩, ⟨(some 15), .move (.t 31), none⟩])))))))
  (.seq (.reg [⟨(some 2), .move (.c (.bool true)), none⟩])
  .ret))))⟩
theorem c142_ok : cFunc Go.Proofs.Try.prog Go.Proofs.Try.f142 = some c142 := by kernel_rfl
/-- semigroup/semigroupref03.Copy -/
def c143 : CFunc := ⟨20, [.tmp 2], (.seq (.reg [⟨(some 2), .move (.c (.slice none 0 0)), none⟩])
  (.seq (.reg [⟨(some 3), .move (.c (.slice none 0 0)), none⟩])
  (.seq (.seq (.reg [⟨(some 6), .move (.t 0), none⟩, ⟨(some 7), .lenSl (.t 6), none⟩, ⟨(some 8), .move (.c (.int .i64 (.ofNat 0))), none⟩])
  (.block 0 (.loop (.seq (.reg [⟨(some 9), .bin .lss (.t 8) (.t 7), none⟩])
  (.seq (.cond (.t 9) .skip (.exit 0))
  (.seq (.block 1 (.seq (.reg [⟨(some 10), .iaddr 1 (.t 6) (.t 8), none⟩, ⟨(some 11), .load (.t 10), none⟩, ⟨(some 5), .move (.t 11), none⟩])
  (.reg [⟨(some 12), .move (.t 3), none⟩, ⟨(some 13), .buildSlice 3 1 0 [] [], none⟩, ⟨(some 14), .move (.t 5), none⟩, ⟨(some 15), .append 3 1 8 (.t 13) (.t 14), none⟩, ⟨(some 16), .buildSlice 22 1 1 [(.slice none 0 0)] [(0, (.t 15))], none⟩, ⟨(some 17), .append 22 1 24 (.t 12) (.t 16), none⟩, ⟨(some 3), .move (.t 17), none⟩])))
  (.reg [⟨(some 18), .bin .add (.t 8) (.c (.int .i64 (.ofNat 1))), none⟩, ⟨(some 8), .move (.t 18), none⟩])))))))
  (.seq (.reg [⟨(some 19), .move (.t 3), none⟩, ⟨(some 2), .move (.t 19), none⟩])
  .ret))))⟩
theorem c143_ok : cFunc Go.Proofs.Try.prog Go.Proofs.Try.f143 = some c143 := by kernel_rfl
/-- semigroup/semigroupref03.Discrete -/
def c144 : CFunc := ⟨18, [.tmp 2], (.seq (.reg [⟨(some 2), .move (.c (.slice none 0 0)), none⟩])
  (.seq (.reg [⟨(some 5), .move (.t 0), none⟩, ⟨(some 6), .mkSlice 3 8 1 [(.int .i64 (.ofNat 0))] (.t 5) (.t 5), none⟩, ⟨(some 3), .move (.t 6), none⟩])
  (.seq (.seq (.reg [⟨(some 7), .move (.t 3), none⟩, ⟨(some 8), .lenSl (.t 7), none⟩, ⟨(some 9), .move (.c (.int .i64 (.ofNat 0))), none⟩])
  (.block 0 (.loop (.seq (.reg [⟨(some 10), .bin .lss (.t 9) (.t 8), none⟩])
  (.seq (.cond (.t 10) .skip (.exit 0))
  (.seq (.block 1 (.seq (.reg [⟨(some 11), .move (.t 9), none⟩, ⟨(some 4), .move (.t 11), none⟩])
  (.reg [⟨(some 12), .move (.t 3), none⟩, ⟨(some 13), .move (.t 4), none⟩, ⟨(some 14), .move (.t 4), none⟩, ⟨(some 15), .iaddr 1 (.t 12) (.t 13), none⟩, ⟨none, .store 1 (.t 15) (.t 14), none⟩])))
  (.reg [⟨(some 16), .bin .add (.t 9) (.c (.int .i64 (.ofNat 1))), none⟩, ⟨(some 9), .move (.t 16), none⟩])))))))
  (.seq (.reg [⟨(some 17), .move (.t 3), none⟩, ⟨(some 2), .move (.t 17), none⟩])
  .ret))))⟩
theorem c144_ok : cFunc Go.Proofs.Try.prog Go.Proofs.Try.f144 = some c144 := by kernel_rfl
/-- semigroup/semigroupref11.Compose -/
def c145 : CFunc := ⟨27, [.tmp 4], (.seq (.reg [⟨(some 4), .move (.c (.slice none 0 0)), none⟩])
  (.seq (.reg [⟨(some 8), .move (.t 0), none⟩, ⟨(some 9), .lenSl (.t 8), none⟩, ⟨(some 10), .mkSlice 3 8 1 [(.int .i64 (.ofNat 0))] (.t 9) (.t 9), none⟩, ⟨(some 5), .move (.t 10), none⟩])
  (.seq (.seq (.reg [⟨(some 11), .move (.t 0), none⟩, ⟨(some 12), .lenSl (.t 11), none⟩, ⟨(some 13), .move (.c (.int .i64 (.ofNat 0))), none⟩])
  (.block 0 (.loop (.seq (.reg [⟨(some 14), .bin .lss (.t 13) (.t 12), none⟩])
  (.seq (.cond (.t 14) .skip (.exit 0))
  (.seq (.block 1 (.seq (.reg [⟨(some 15), .move (.t 13), none⟩, ⟨(some 16), .iaddr 1 (.t 11) (.t 13), none⟩, ⟨(some 17), .load (.t 16), none⟩, ⟨(some 6), .move (.t 15), none⟩, ⟨(some 7), .move (.t 17), none⟩])
  (.reg [⟨(some 18), .move (.t 5), none⟩, ⟨(some 19), .move (.t 6), none⟩, ⟨(some 20), .move (.t 1), none⟩, ⟨(some 21), .move (.t 7), none⟩, ⟨(some 22), .iaddr 1 (.t 20) (.t 21), none⟩, ⟨(some 23), .load (.t 22), none⟩, ⟨(some 24), .iaddr 1 (.t 18) (.t 19), none⟩, ⟨none, .store 1 (.t 24) (.t 23), none⟩])))
  (.reg [⟨(some 25), .bin .add (.t 13) (.c (.int .i64 (.ofNat 1))), none⟩, ⟨(some 13), .move (.t 25), none⟩])))))))
  (.seq (.reg [⟨(some 26), .move (.t 5), none⟩, ⟨(some 4), .move (.t 26), none⟩])
  .ret))))⟩
theorem c145_ok : cFunc Go.Proofs.Try.prog Go.Proofs.Try.f145 = some c145 := by kernel_rfl
/-- semigroup/trans.OfDFA -/
def c146 : CFunc := ⟨55, [.tmp 2, .tmp 3], (.seq (.reg [⟨(some 1), .box 32 (.t 0), none⟩, ⟨(some 2), .move (.c (.slice none 0 0)), none⟩, ⟨(some 3), .move (.c (.int .i64 (.ofNat 0))), none⟩])
  (.seq (.seq (.reg [⟨(some 8), .loadN 4 (.t 1), none⟩, ⟨(some 9), .call 75 [(.t 8)], none⟩, ⟨(some 4), .move (.t 9), none⟩])
  (.seq (.reg [⟨(some 10), .move (.t 4), none⟩, ⟨(some 11), .bin .neq (.t 10) (.c (.int .i64 (.ofNat 0))), none⟩])
  (.cond (.t 11) (.seq (.reg [⟨(some 12), .move (.t 4), none⟩, ⟨(some 2), .move (.c (.slice none 0 0)), none⟩, ⟨(some 3), .move (.t 12), none⟩])
  .ret) .skip)))
  (.seq (.seq (.reg [⟨(some 13), .faddr 2 (.t 1), none⟩, ⟨(some 14), .load (.t 13), none⟩, ⟨(some 15), .lenSl (.t 14), none⟩, ⟨(some 16), .bin .gtr (.t 15) (.c (.int .i64 (.ofNat 32))), none⟩])
  (.cond (.t 16) (.seq (.reg [⟨(some 2), .move (.c (.slice none 0 0)), none⟩, ⟨(some 3), .move (.c (.int .i64 (.ofNat 3))), none⟩])
  .ret) .skip))
  (.seq (.reg [⟨(some 17), .faddr 0 (.t 1), none⟩, ⟨(some 18), .load (.t 17), none⟩, ⟨(some 19), .mkSlice 22 24 1 [(.slice none 0 0)] (.t 18) (.t 18), none⟩, ⟨(some 5), .move (.t 19), none⟩])
  (.seq (.seq (.reg [⟨(some 20), .move (.t 5), none⟩, ⟨(some 21), .lenSl (.t 20), none⟩, ⟨(some 22), .move (.c (.int .i64 (.ofNat 0))), none⟩])
  (.block 0 (.loop (.seq (.reg [⟨(some 23), .bin .lss (.t 22) (.t 21), none⟩])
  (.seq (.cond (.t 23) .skip (.exit 0))
  (.seq (.block 1 (.seq (.reg [⟨(some 24), .move (.t 22), none⟩, ⟨(some 6), .move (.t 24), none⟩])
  (.seq (.reg [⟨(some 25), .move (.t 5), none⟩, ⟨(some 26), .move (.t 6), none⟩, ⟨(some 27), .faddr 2 (.t 1), none⟩, ⟨(some 28), .load (.t 27), none⟩, ⟨(some 29), .lenSl (.t 28), none⟩, ⟨(some 30), .mkSlice 3 8 1 [(.int .i64 (.ofNat 0))] (.t 29) (.t 29), none⟩, ⟨(some 31), .iaddr 1 (.t 25) (.t 26), none⟩, ⟨none, .store 1 (.t 31) (.t 30), none⟩])
  (.seq (.reg [⟨(some 32), .faddr 2 (.t 1), none⟩, ⟨(some 33), .load (.t 32), none⟩, ⟨(some 34), .lenSl (.t 33), none⟩, ⟨(some 35), .move (.c (.int .i64 (.ofNat 0))), none⟩])
  (.block 2 (.loop (.seq (.reg [⟨(some 36), .bin .lss (.t 35) (.t 34), none⟩])
  (.seq (.cond (.t 36) .skip (.exit 2))
  (.seq (.block 3 (.seq (.reg [⟨(some 37), .move (.t 35), none⟩, ⟨(some 7), .move (.t 37), none⟩])
  (.draw [(⟨(some 38), .move (.t 5), none⟩, 0), (⟨(some 39), .move (.t 6), none⟩, 0), (⟨(some 40), .iaddr 1 (.t 38) (.t 39), none⟩, 0), (⟨(some 41), .load (.t 40), none⟩, 0), (⟨(some 42), .move (.t 7), none⟩, 0), (⟨(some 43), .faddr 3 (.t 1), none⟩, 0), (⟨(some 44), .load (.t 43), none⟩, 0), (⟨(some 45), .move (.t 7), none⟩, 0), (⟨(some 46), .iaddr 1 (.t 44) (.t 45), none⟩, 0), (⟨(some 47), .load (.t 46), none⟩, 0), (⟨(some 48), .move (.t 6), none⟩, 0), (⟨(some 49), .iaddr 1 (.t 47) (.t 48), none⟩, 0), (⟨(some 50), .load (.t 49), none⟩, 0), (⟨(some 51), .iaddr 1 (.t 41) (.t 42), none⟩, 0), (⟨none, .store 1 (.t 51) (.t 50), none⟩, 1)])))
  (.reg [⟨(some 52), .bin .add (.t 35) (.c (.int .i64 (.ofNat 1))), none⟩, ⟨(some 35), .move (.t 52), none⟩]))))))))))
  (.reg [⟨(some 53), .bin .add (.t 22) (.c (.int .i64 (.ofNat 1))), none⟩, ⟨(some 22), .move (.t 53), none⟩])))))))
  (.seq (.reg [⟨(some 54), .move (.t 5), none⟩, ⟨(some 2), .move (.t 54), none⟩, ⟨(some 3), .move (.c (.int .i64 (.ofNat 0))), none⟩])
  .ret))))))⟩
theorem c146_ok : cFunc Go.Proofs.Try.prog Go.Proofs.Try.f146 = some c146 := by kernel_rfl
/-- semigroup/syntactic.monoid -/
def c147 : CFunc := ⟨105, [.cells 6 2, .cells 9 3, .tmp 4], (.seq (.reg [⟨(some 2), .alloc 101 [(.int .i64 (.ofNat 0)), (.slice none 0 0), (.slice none 0 0), (.slice none 0 0), (.slice none 0 0), (.slice none 0 0)], none⟩, ⟨(some 3), .alloc 163 [(.int .i64 (.ofNat 0)), (.bool false), (.slice none 0 0), (.slice none 0 0), (.slice none 0 0), (.slice none 0 0), (.slice none 0 0), (.slice none 0 0), (.int .i64 (.ofNat 0))], none⟩, ⟨(some 4), .move (.c (.int .i64 (.ofNat 0))), none⟩])
  (.seq (.reg [⟨(some 13), .move (.t 0), none⟩, ⟨(some 14), .call 149 [(.t 13), (.c (.bool true))], none⟩, ⟨(some 12), .move (.t 14), none⟩, ⟨(some 15), .extract 0 (.t 12), none⟩, ⟨(some 16), .extract 1 (.t 12), none⟩, ⟨(some 5), .alloc 163 [(.int .i64 (.ofNat 0)), (.bool false), (.slice none 0 0), (.slice none 0 0), (.slice none 0 0), (.slice none 0 0), (.slice none 0 0), (.slice none 0 0), (.int .i64 (.ofNat 0))], none⟩, ⟨none, .store 9 (.t 5) (.t 15), none⟩, ⟨(some 6), .move (.t 16), none⟩])
  (.seq (.seq (.reg [⟨(some 17), .move (.t 6), none⟩, ⟨(some 18), .bin .neq (.t 17) (.c (.int .i64 (.ofNat 0))), none⟩])
  (.cond (.t 18) (.seq (.reg [⟨(some 19), .build [(.int .i64 (.ofNat 0)), (.slice none 0 0), (.slice none 0 0), (.slice none 0 0), (.slice none 0 0), (.slice none 0 0)] [], none⟩, ⟨(some 20), .build [(.int .i64 (.ofNat 0)), (.bool false), (.slice none 0 0), (.slice none 0 0), (.slice none 0 0), (.slice none 0 0), (.slice none 0 0), (.slice none 0 0), (.int .i64 (.ofNat 0))] [], none⟩, ⟨(some 21), .move (.t 6), none⟩, ⟨none, .store 6 (.t 2) (.t 19), none⟩, ⟨none, .store 9 (.t 3) (.t 20), none⟩, ⟨(some 4), .move (.t 21), none⟩])
  .ret) .skip))
  (.seq (.reg [⟨(some 23), .loadN 9 (.t 5), none⟩, ⟨(some 24), .call 150 [(.t 23)], none⟩, ⟨(some 22), .move (.t 24), none⟩, ⟨(some 25), .extract 0 (.t 22), none⟩, ⟨(some 26), .extract 1 (.t 22), none⟩, ⟨(some 7), .move (.t 25), none⟩, ⟨(some 6), .move (.t 26), none⟩])
  (.seq (.seq (.reg [⟨(some 27), .move (.t 6), none⟩, ⟨(some 28), .bin .neq (.t 27) (.c (.int .i64 (.ofNat 0))), none⟩])
  (.cond (.t 28) (.seq (.reg [⟨(some 29), .build [(.int .i64 (.ofNat 0)), (.slice none 0 0), (.slice none 0 0), (.slice none 0 0), (.slice none 0 0), (.slice none 0 0)] [], none⟩, ⟨(some 30), .build [(.int .i64 (.ofNat 0)), (.bool false), (.slice none 0 0), (.slice none 0 0), (.slice none 0 0), (.slice none 0 0), (.slice none 0 0), (.slice none 0 0), (.int .i64 (.ofNat 0))] [], none⟩, ⟨(some 31), .move (.t 6), none⟩, ⟨none, .store 6 (.t 2) (.t 29), none⟩, ⟨none, .store 9 (.t 3) (.t 30), none⟩, ⟨(some 4), .move (.t 31), none⟩])
  .ret) .skip))
  (.seq (.reg [⟨(some 32), .move (.t 0), none⟩, ⟨(some 33), .lenSl (.t 32), none⟩, ⟨(some 34), .move (.t 7), none⟩, ⟨(some 35), .buildSlice 3 1 0 [] [], none⟩, ⟨(some 36), .faddr 6 (.t 5), none⟩, ⟨(some 37), .load (.t 36), none⟩, ⟨(some 38), .iaddr 1 (.t 37) (.c (.int .i64 (.ofNat 0))), none⟩, ⟨(some 39), .load (.t 38), none⟩, ⟨(some 40), .append 3 1 8 (.t 35) (.t 39), none⟩, ⟨(some 41), .build [(.int .i64 (.ofNat 0)), (.slice none 0 0), (.slice none 0 0), (.slice none 0 0), (.slice none 0 0), (.slice none 0 0)] [(0, 1, (.t 33)), (1, 1, (.t 34)), (3, 1, (.t 40))], none⟩, ⟨(some 8), .alloc 101 [(.int .i64 (.ofNat 0)), (.slice none 0 0), (.slice none 0 0), (.slice none 0 0), (.slice none 0 0), (.slice none 0 0)], none⟩, ⟨none, .store 6 (.t 8) (.t 41), none⟩])
  (.seq (.reg [⟨(some 42), .move (.t 7), none⟩, ⟨(some 43), .lenSl (.t 42), none⟩, ⟨(some 44), .mkSlice 9 16 1 [(.string ⟨⟨[]⟩⟩)] (.t 43) (.t 43), none⟩, ⟨(some 45), .faddr 2 (.t 8), none⟩, ⟨none, .store 1 (.t 45) (.t 44), none⟩])
  (.seq (.reg [⟨(some 46), .move (.t 7), none⟩, ⟨(some 47), .lenSl (.t 46), none⟩, ⟨(some 48), .mkSlice 4 1 1 [(.bool false)] (.t 47) (.t 47), none⟩, ⟨(some 49), .faddr 5 (.t 8), none⟩, ⟨none, .store 1 (.t 49) (.t 48), none⟩])
  (.seq (.seq (.reg [⟨(some 50), .move (.t 7), none⟩, ⟨(some 51), .lenSl (.t 50), none⟩, ⟨(some 52), .move (.c (.int .i64 (.ofNat 0))), none⟩])
  (.block 0 (.loop (.seq (.reg [⟨(some 53), .bin .lss (.t 52) (.t 51), none⟩])
  (.seq (.cond (.t 53) .skip (.exit 0))
  (.seq (.block 1 (.seq (.reg [⟨(some 54), .move (.t 52), none⟩, ⟨(some 9), .move (.t 54), none⟩])
  (.seq (.seq (.reg [⟨(some 55), .faddr 5 (.t 5), none⟩, ⟨(some 56), .load (.t 55), none⟩, ⟨(some 57), .move (.t 9), none⟩, ⟨(some 58), .iaddr 1 (.t 56) (.t 57), none⟩, ⟨(some 59), .load (.t 58), none⟩, ⟨(some 60), .bin .geq (.t 59) (.c (.int .i64 (.ofNat 0))), none⟩])
  (.cond (.t 60) (.draw [(⟨(some 61), .faddr 2 (.t 8), none⟩, 0), (⟨(some 62), .load (.t 61), none⟩, 0), (⟨(some 63), .move (.t 9), none⟩, 0), (⟨(some 64), .faddr 2 (.t 8), none⟩, 0), (⟨(some 65), .load (.t 64), none⟩, 0), (⟨(some 66), .faddr 4 (.t 5), none⟩, 0), (⟨(some 67), .load (.t 66), none⟩, 0), (⟨(some 68), .move (.t 9), none⟩, 0), (⟨(some 69), .iaddr 1 (.t 67) (.t 68), none⟩, 0), (⟨(some 70), .load (.t 69), none⟩, 0), (⟨(some 71), .iaddr 1 (.t 65) (.t 70), none⟩, 0), (⟨(some 72), .load (.t 71), none⟩, 0), (⟨(some 73), .faddr 5 (.t 5), none⟩, 0), (⟨(some 74), .load (.t 73), none⟩, 0), (⟨(some 75), .move (.t 9), none⟩, 0), (⟨(some 76), .iaddr 1 (.t 74) (.t 75), none⟩, 0), (⟨(some 77), .load (.t 76), none⟩, 0), (⟨(some 78), .faddr 5 (.t 5), none⟩, 0), (⟨(some 79), .load (.t 78), none⟩, 0), (⟨(some 80), .move (.t 9), none⟩, 0), (⟨(some 81), .iaddr 1 (.t 79) (.t 80), none⟩, 0), (⟨(some 82), .load (.t 81), none⟩, 0), (⟨(some 83), .bin .add (.t 82) (.c (.int .i64 (.ofNat 1))), none⟩, 0), (⟨(some 84), .sub (.c (.string ⟨⟨[97, 98, 99, 100, 101, 102]⟩⟩)) (some (.t 77)) (some (.t 83)), none⟩, 0), (⟨(some 85), .bin .add (.t 72) (.t 84), none⟩, 0), (⟨(some 86), .iaddr 1 (.t 62) (.t 63), none⟩, 0), (⟨none, .store 1 (.t 86) (.t 85), none⟩, 1)]) .skip))
  (.seq (.reg [⟨(some 87), .faddr 6 (.t 5), none⟩, ⟨(some 88), .load (.t 87), none⟩, ⟨(some 89), .move (.t 9), none⟩, ⟨(some 90), .iaddr 1 (.t 88) (.t 89), none⟩, ⟨(some 91), .load (.t 90), none⟩, ⟨(some 92), .lenSl (.t 91), none⟩, ⟨(some 93), .move (.c (.int .i64 (.ofNat 0))), none⟩])
  (.block 2 (.loop (.seq (.reg [⟨(some 94), .bin .lss (.t 93) (.t 92), none⟩])
  (.seq (.cond (.t 94) .skip (.exit 2))
  (.seq (.block 3 (.seq (.reg [⟨(some 95), .iaddr 1 (.t 91) (.t 93), none⟩, ⟨(some 96), .load (.t 95), none⟩, ⟨(some 11), .move (.t 96), none⟩])
  (.reg [⟨(some 97), .faddr 5 (.t 8), none⟩, ⟨(some 98), .load (.t 97), none⟩, ⟨(some 99), .move (.t 11), none⟩, ⟨(some 100), .iaddr 1 (.t 98) (.t 99), none⟩, ⟨none, .store 1 (.t 100) (.c (.bool true)), none⟩])))
  (.reg [⟨(some 101), .bin .add (.t 93) (.c (.int .i64 (.ofNat 1))), none⟩, ⟨(some 93), .move (.t 101), none⟩]))))))))))
  (.reg [⟨(some 102), .bin .add (.t 52) (.c (.int .i64 (.ofNat 1))), none⟩, ⟨(some 52), .move (.t 102), none⟩])))))))
  (.seq (.draw [(⟨(some 103), .loadN 6 (.t 8), none⟩, 0), (⟨(some 104), .loadN 9 (.t 5), none⟩, 1), (⟨none, .store 6 (.t 2) (.t 103), none⟩, 1), (⟨none, .store 9 (.t 3) (.t 104), none⟩, 2), (⟨(some 4), .move (.c (.int .i64 (.ofNat 0))), none⟩, 2)])
  .ret))))))))))⟩
theorem c147_ok : cFunc Go.Proofs.Try.prog Go.Proofs.Try.f147 = some c147 := by kernel_rfl
/-- semigroup/semigroupref11.Valid -/
def c148 : CFunc := ⟨28, [.tmp 2], (.seq (.reg [⟨(some 2), .move (.c (.bool false)), none⟩])
  (.seq (.seq (.reg [⟨(some 5), .move (.t 0), none⟩, ⟨(some 6), .lenSl (.t 5), none⟩, ⟨(some 7), .bin .lss (.t 6) (.c (.int .i64 (.ofNat 1))), none⟩, ⟨(some 8), .move (.t 7), none⟩, ⟨(some 9), .move (.t 0), (some (8, false))⟩, ⟨(some 10), .lenSl (.t 9), (some (8, false))⟩, ⟨(some 11), .bin .gtr (.t 10) (.c (.int .i64 (.ofNat 32))), (some (8, false))⟩, ⟨(some 12), .pick (.t 8) (.c (.bool true)) (.t 11), none⟩])
  (.cond (.t 12) (.seq (.reg [⟨(some 2), .move (.c (.bool false)), none⟩])
  .ret) .skip))
  (.seq (.seq (.reg [⟨(some 13), .move (.t 0), none⟩, ⟨(some 14), .lenSl (.t 13), none⟩, ⟨(some 15), .move (.c (.int .i64 (.ofNat 0))), none⟩])
  (.block 0 (.loop (.seq (.reg [⟨(some 16), .bin .lss (.t 15) (.t 14), none⟩])
  (.seq (.cond (.t 16) .skip (.exit 0))
  (.seq (.block 1 (.seq (.reg [⟨(some 17), .iaddr 1 (.t 13) (.t 15), none⟩, ⟨(some 18), .load (.t 17), none⟩, ⟨(some 4), .move (.t 18), none⟩])
  (.seq (.reg [⟨(some 19), .move (.t 4), none⟩, ⟨(some 20), .bin .lss (.t 19) (.c (.int .i64 (.ofNat 0))), none⟩, ⟨(some 21), .move (.t 20), none⟩, ⟨(some 22), .move (.t 4), (some (21, false))⟩, ⟨(some 23), .move (.t 0), (some (21, false))⟩, ⟨(some 24), .lenSl (.t 23), (some (21, false))⟩, ⟨(some 25), .bin .geq (.t 22) (.t 24), (some (21, false))⟩, ⟨(some 26), .pick (.t 21) (.c (.bool true)) (.t 25), none⟩])
  (.cond (.t 26) (.seq (.reg [⟨(some 2), .move (.c (.bool false)), none⟩])
  .ret) .skip))))
  (.reg [⟨(some 27), .bin .add (.t 15) (.c (.int .i64 (.ofNat 1))), none⟩, ⟨(some 15), .move (.t 27), none⟩])))))))
  (.seq (.reg [⟨(some 2), .move (.c (.bool true)), none⟩])
  .ret))))⟩
theorem c148_ok : cFunc Go.Proofs.Try.prog Go.Proofs.Try.f148 = some c148 := by kernel_rfl
/-- semigroup/enumerate.Build -/
def c149 : CFunc := ⟨26, [.cells 9 4, .tmp 5], (.seq (.reg [⟨(some 4), .alloc 163 [(.int .i64 (.ofNat 0)), (.bool false), (.slice none 0 0), (.slice none 0 0), (.slice none 0 0), (.slice none 0 0), (.slice none 0 0), (.slice none 0 0), (.int .i64 (.ofNat 0))], none⟩, ⟨(some 5), .move (.c (.int .i64 (.ofNat 0))), none⟩])
  (.seq (.reg [⟨(some 9), .move (.t 0), none⟩, ⟨(some 10), .move (.t 1), none⟩, ⟨(some 11), .call 151 [(.t 9), (.t 10)], none⟩, ⟨(some 8), .move (.t 11), none⟩, ⟨(some 12), .extract 0 (.t 8), none⟩, ⟨(some 13), .extract 1 (.t 8), none⟩, ⟨(some 6), .move (.t 12), none⟩, ⟨(some 7), .move (.t 13), none⟩])
  (.seq (.seq (.reg [⟨(some 14), .move (.t 7), none⟩, ⟨(some 15), .bin .eql (.t 14) (.c (.int .i64 (.ofNat 0))), none⟩])
  (.cond (.t 15) (.reg [⟨(some 16), .move (.t 6), none⟩, ⟨(some 17), .call 152 [(.t 16), (.c (.int .i64 (.ofNat 2000)))], none⟩, ⟨(some 7), .move (.t 17), none⟩]) .skip))
  (.seq (.seq (.reg [⟨(some 18), .move (.t 7), none⟩, ⟨(some 19), .bin .neq (.t 18) (.c (.int .i64 (.ofNat 0))), none⟩])
  (.cond (.t 19) (.seq (.reg [⟨(some 20), .build [(.int .i64 (.ofNat 0)), (.bool false), (.slice none 0 0), (.slice none 0 0), (.slice none 0 0), (.slice none 0 0), (.slice none 0 0), (.slice none 0 0), (.int .i64 (.ofNat 0))] [], none⟩, ⟨(some 21), .move (.t 7), none⟩, ⟨none, .store 9 (.t 4) (.t 20), none⟩, ⟨(some 5), .move (.t 21), none⟩])
  .ret) .skip))
  (.seq (.reg [⟨(some 22), .move (.t 6), none⟩, ⟨(some 23), .nilCheck (.t 22), none⟩, ⟨(some 24), .faddr 0 (.t 23), none⟩, ⟨(some 25), .loadN 9 (.t 24), none⟩, ⟨none, .store 9 (.t 4) (.t 25), none⟩, ⟨(some 5), .move (.c (.int .i64 (.ofNat 0))), none⟩])
  .ret)))))⟩
theorem c149_ok : cFunc Go.Proofs.Try.prog Go.Proofs.Try.f149 = some c149 := by kernel_rfl
/-- semigroup/enumerate.Table -/
def c150 : CFunc := ⟨93, [.tmp 2, .tmp 3], (.seq (.reg [⟨(some 1), .box 163 (.t 0), none⟩, ⟨(some 2), .move (.c (.slice none 0 0)), none⟩, ⟨(some 3), .move (.c (.int .i64 (.ofNat 0))), none⟩])
  (.seq (.reg [⟨(some 10), .loadN 9 (.t 1), none⟩, ⟨(some 11), .call 153 [(.t 10)], none⟩, ⟨(some 4), .move (.t 11), none⟩])
  (.seq (.block 0 (.seq (.reg [⟨(some 13), .move (.t 4), none⟩, ⟨(some 14), .eqNil .ptr false (.t 13), none⟩, ⟨(some 12), .move (.t 14), none⟩])
  (.cond (.t 12) (.seq (.reg [⟨(some 2), .move (.c (.slice none 0 0)), none⟩, ⟨(some 3), .move (.c (.int .i64 (.ofNat 8))), none⟩])
  .ret) (.seq (.draw [(⟨(some 16), .move (.t 4), none⟩, 0), (⟨(some 17), .nilCheck (.t 16), none⟩, 0), (⟨(some 18), .faddr 0 (.t 17), none⟩, 0), (⟨(some 19), .faddr 8 (.t 18), none⟩, 0), (⟨(some 20), .load (.t 19), none⟩, 0), (⟨(some 21), .move (.t 4), none⟩, 0), (⟨(some 22), .nilCheck (.t 21), none⟩, 0), (⟨(some 23), .faddr 0 (.t 22), none⟩, 0), (⟨(some 24), .faddr 3 (.t 23), none⟩, 0), (⟨(some 25), .load (.t 24), none⟩, 0), (⟨(some 26), .lenSl (.t 25), none⟩, 0), (⟨(some 27), .bin .lss (.t 20) (.t 26), none⟩, 0), (⟨(some 15), .move (.t 27), none⟩, 0)])
  (.cond (.t 15) (.seq (.reg [⟨(some 2), .move (.c (.slice none 0 0)), none⟩, ⟨(some 3), .move (.c (.int .i64 (.ofNat 7))), none⟩])
  .ret) (.seq (.reg [⟨(some 29), .move (.t 4), none⟩, ⟨(some 30), .nilCheck (.t 29), none⟩, ⟨(some 31), .faddr 0 (.t 30), none⟩, ⟨(some 32), .faddr 3 (.t 31), none⟩, ⟨(some 33), .load (.t 32), none⟩, ⟨(some 34), .lenSl (.t 33), none⟩, ⟨(some 35), .bin .gtr (.t 34) (.c (.int .i64 (.ofNat 400))), none⟩, ⟨(some 28), .move (.t 35), none⟩])
  (.cond (.t 28) (.seq (.reg [⟨(some 2), .move (.c (.slice none 0 0)), none⟩, ⟨(some 3), .move (.c (.int .i64 (.ofNat 3))), none⟩])
  .ret) .skip)))))))
  (.seq (.reg [⟨(some 36), .move (.t 4), none⟩, ⟨(some 37), .nilCheck (.t 36), none⟩, ⟨(some 38), .faddr 0 (.t 37), none⟩, ⟨(some 39), .faddr 3 (.t 38), none⟩, ⟨(some 40), .load (.t 39), none⟩, ⟨(some 41), .lenSl (.t 40), none⟩, ⟨(some 42), .mkSlice 22 24 1 [(.slice none 0 0)] (.t 41) (.t 41), none⟩, ⟨(some 5), .move (.t 42), none⟩])
  (.seq (.seq (.reg [⟨(some 43), .move (.t 4), none⟩, ⟨(some 44), .nilCheck (.t 43), none⟩, ⟨(some 45), .faddr 0 (.t 44), none⟩, ⟨(some 46), .faddr 3 (.t 45), none⟩, ⟨(some 47), .load (.t 46), none⟩, ⟨(some 48), .lenSl (.t 47), none⟩, ⟨(some 49), .move (.c (.int .i64 (.ofNat 0))), none⟩])
  (.block 1 (.loop (.seq (.reg [⟨(some 50), .bin .lss (.t 49) (.t 48), none⟩])
  (.seq (.cond (.t 50) .skip (.exit 1))
  (.seq (.block 2 (.seq (.reg [⟨(some 51), .move (.t 49), none⟩, ⟨(some 52), .iaddr 1 (.t 47) (.t 49), none⟩, ⟨(some 53), .load (.t 52), none⟩, ⟨(some 6), .move (.t 51), none⟩, ⟨(some 7), .move (.t 53), none⟩])
  (.seq (.reg [⟨(some 54), .move (.t 5), none⟩, ⟨(some 55), .move (.t 6), none⟩, ⟨(some 56), .move (.t 4), none⟩, ⟨(some 57), .nilCheck (.t 56), none⟩, ⟨(some 58), .faddr 0 (.t 57), none⟩, ⟨(some 59), .faddr 3 (.t 58), none⟩, ⟨(some 60), .load (.t 59), none⟩, ⟨(some 61), .lenSl (.t 60), none⟩, ⟨(some 62), .mkSlice 3 8 1 [(.int .i64 (.ofNat 0))] (.t 61) (.t 61), none⟩, ⟨(some 63), .iaddr 1 (.t 54) (.t 55), none⟩, ⟨none, .store 1 (.t 63) (.t 62), none⟩])
  (.seq (.reg [⟨(some 64), .move (.t 4), none⟩, ⟨(some 65), .nilCheck (.t 64), none⟩, ⟨(some 66), .faddr 0 (.t 65), none⟩, ⟨(some 67), .faddr 3 (.t 66), none⟩, ⟨(some 68), .load (.t 67), none⟩, ⟨(some 69), .lenSl (.t 68), none⟩, ⟨(some 70), .move (.c (.int .i64 (.ofNat 0))), none⟩])
  (.block 3 (.loop (.seq (.reg [⟨(some 71), .bin .lss (.t 70) (.t 69), none⟩])
  (.seq (.cond (.t 71) .skip (.exit 3))
  (.seq (.block 4 (.seq (.reg [⟨(some 72), .move (.t 70), none⟩, ⟨(some 73), .iaddr 1 (.t 68) (.t 70), none⟩, ⟨(some 74), .load (.t 73), none⟩, ⟨(some 8), .move (.t 72), none⟩, ⟨(some 9), .move (.t 74), none⟩])
  (.draw [(⟨(some 75), .move (.t 5), none⟩, 2), (⟨(some 76), .move (.t 6), none⟩, 2), (⟨(some 77), .iaddr 1 (.t 75) (.t 76), none⟩, 2), (⟨(some 78), .load (.t 77), none⟩, 2), (⟨(some 79), .move (.t 8), none⟩, 2), (⟨(some 80), .move (.t 4), none⟩, 2), (⟨(some 81), .nilCheck (.t 80), none⟩, 2), (⟨(some 82), .faddr 9 (.t 81), none⟩, 2), (⟨(some 83), .load (.t 82), none⟩, 2), (⟨(some 84), .move (.t 7), none⟩, 0), (⟨(some 85), .move (.t 9), none⟩, 0), (⟨(some 86), .call 155 [(.t 84), (.t 85)], none⟩, 1), (⟨(some 87), .call 154 [(.t 86)], none⟩, 2), (⟨(some 88), .lookup (.one .str) (.int .i64 (.ofNat 0)) false (.t 83) (.t 87), none⟩, 2), (⟨(some 89), .iaddr 1 (.t 78) (.t 79), none⟩, 2), (⟨none, .store 1 (.t 89) (.t 88), none⟩, 3)])))
  (.reg [⟨(some 90), .bin .add (.t 70) (.c (.int .i64 (.ofNat 1))), none⟩, ⟨(some 70), .move (.t 90), none⟩]))))))))))
  (.reg [⟨(some 91), .bin .add (.t 49) (.c (.int .i64 (.ofNat 1))), none⟩, ⟨(some 49), .move (.t 91), none⟩])))))))
  (.seq (.reg [⟨(some 92), .move (.t 5), none⟩, ⟨(some 2), .move (.t 92), none⟩, ⟨(some 3), .move (.c (.int .i64 (.ofNat 0))), none⟩])
  .ret))))))⟩
theorem c150_ok : cFunc Go.Proofs.Try.prog Go.Proofs.Try.f150 = some c150 := by kernel_rfl
/-- semigroup/enumerate.begin -/
def c151 : CFunc := ⟨104, [.tmp 4, .tmp 5], (.seq (.reg [⟨(some 4), .move (.c (.pointer none)), none⟩, ⟨(some 5), .move (.c (.int .i64 (.ofNat 0))), none⟩])
  (.seq (.seq (.reg [⟨(some 14), .move (.t 0), none⟩, ⟨(some 15), .lenSl (.t 14), none⟩, ⟨(some 16), .bin .eql (.t 15) (.c (.int .i64 (.ofNat 0))), none⟩, ⟨(some 17), .move (.t 16), none⟩, ⟨(some 18), .move (.t 0), (some (17, false))⟩, ⟨(some 19), .lenSl (.t 18), (some (17, false))⟩, ⟨(some 20), .bin .gtr (.t 19) (.c (.int .i64 (.ofNat 6))), (some (17, false))⟩, ⟨(some 21), .pick (.t 17) (.c (.bool true)) (.t 20), none⟩])
  (.cond (.t 21) (.seq (.reg [⟨(some 4), .move (.c (.pointer none)), none⟩, ⟨(some 5), .move (.c (.int .i64 (.ofNat 1))), none⟩])
  .ret) .skip))
  (.seq (.seq (.reg [⟨(some 22), .move (.t 0), none⟩, ⟨(some 23), .lenSl (.t 22), none⟩, ⟨(some 24), .move (.c (.int .i64 (.ofNat 0))), none⟩])
  (.block 0 (.loop (.seq (.reg [⟨(some 25), .bin .lss (.t 24) (.t 23), none⟩])
  (.seq (.cond (.t 25) .skip (.exit 0))
  (.seq (.block 1 (.seq (.reg [⟨(some 26), .iaddr 1 (.t 22) (.t 24), none⟩, ⟨(some 27), .load (.t 26), none⟩, ⟨(some 7), .move (.t 27), none⟩])
  (.seq (.reg [⟨(some 28), .move (.t 7), none⟩, ⟨(some 29), .call 156 [(.t 28)], none⟩, ⟨(some 30), .not (.t 29), none⟩, ⟨(some 31), .move (.t 30), none⟩, ⟨(some 32), .move (.t 7), (some (31, false))⟩, ⟨(some 33), .lenSl (.t 32), (some (31, false))⟩, ⟨(some 34), .move (.t 0), (some (31, false))⟩, ⟨(some 35), .iaddr 1 (.t 34) (.c (.int .i64 (.ofNat 0))), (some (31, false))⟩, ⟨(some 36), .load (.t 35), (some (31, false))⟩, ⟨(some 37), .lenSl (.t 36), (some (31, false))⟩, ⟨(some 38), .bin .neq (.t 33) (.t 37), (some (31, false))⟩, ⟨(some 39), .pick (.t 31) (.c (.bool true)) (.t 38), none⟩])
  (.cond (.t 39) (.seq (.reg [⟨(some 4), .move (.c (.pointer none)), none⟩, ⟨(some 5), .move (.c (.int .i64 (.ofNat 4))), none⟩])
  .ret) .skip))))
  (.reg [⟨(some 40), .bin .add (.t 24) (.c (.int .i64 (.ofNat 1))), none⟩, ⟨(some 24), .move (.t 40), none⟩])))))))
  (.seq (.reg [⟨(some 41), .move (.t 0), none⟩, ⟨(some 42), .iaddr 1 (.t 41) (.c (.int .i64 (.ofNat 0))), none⟩, ⟨(some 43), .load (.t 42), none⟩, ⟨(some 44), .lenSl (.t 43), none⟩, ⟨(some 45), .move (.t 1), none⟩, ⟨(some 46), .build [(.int .i64 (.ofNat 0)), (.bool false), (.slice none 0 0), (.slice none 0 0), (.slice none 0 0), (.slice none 0 0), (.slice none 0 0), (.slice none 0 0), (.int .i64 (.ofNat 0))] [(0, 1, (.t 44)), (1, 1, (.t 45))], none⟩, ⟨(some 47), .mkMap, none⟩, ⟨(some 48), .build [(.int .i64 (.ofNat 0)), (.bool false), (.slice none 0 0), (.slice none 0 0), (.slice none 0 0), (.slice none 0 0), (.slice none 0 0), (.slice none 0 0), (.int .i64 (.ofNat 0)), (.map none), (.slice none 0 0)] [(0, 9, (.t 46)), (9, 1, (.t 47))], none⟩, ⟨(some 49), .box 208 (.t 48), none⟩, ⟨(some 8), .move (.t 49), none⟩])
  (.seq (.reg [⟨(some 9), .move (.c (.int .i64 (.negSucc 0))), none⟩])
  (.seq (.seq (.reg [⟨(some 50), .move (.t 1), none⟩])
  (.cond (.t 50) (.seq (.reg [⟨(some 51), .move (.t 8), none⟩, ⟨(some 52), .move (.t 0), none⟩, ⟨(some 53), .iaddr 1 (.t 52) (.c (.int .i64 (.ofNat 0))), none⟩, ⟨(some 54), .load (.t 53), none⟩, ⟨(some 55), .lenSl (.t 54), none⟩, ⟨(some 56), .call 158 [(.t 55)], none⟩, ⟨(some 57), .call 157 [(.t 51), (.t 56), (.c (.int .i64 (.negSucc 0))), (.c (.int .i64 (.negSucc 0))), (.c (.string ⟨⟨[]⟩⟩))], none⟩])
  (.reg [⟨(some 9), .move (.c (.int .i64 (.ofNat 0))), none⟩])) .skip))
  (.seq (.seq (.reg [⟨(some 58), .move (.t 0), none⟩, ⟨(some 59), .lenSl (.t 58), none⟩, ⟨(some 60), .move (.c (.int .i64 (.ofNat 0))), none⟩])
  (.block 2 (.loop (.seq (.reg [⟨(some 61), .bin .lss (.t 60) (.t 59), none⟩])
  (.seq (.cond (.t 61) .skip (.exit 2))
  (.seq (.block 3 (.seq (.reg [⟨(some 62), .move (.t 60), none⟩, ⟨(some 63), .iaddr 1 (.t 58) (.t 60), none⟩, ⟨(some 64), .load (.t 63), none⟩, ⟨(some 10), .move (.t 62), none⟩, ⟨(some 11), .move (.t 64), none⟩])
  (.seq (.draw [(⟨(some 65), .move (.t 8), none⟩, 2), (⟨(some 66), .move (.t 8), none⟩, 1), (⟨(some 67), .nilCheck (.t 66), none⟩, 1), (⟨(some 68), .faddr 0 (.t 67), none⟩, 1), (⟨(some 69), .faddr 2 (.t 68), none⟩, 1), (⟨(some 70), .load (.t 69), none⟩, 1), (⟨(some 71), .buildSlice 3 1 0 [] [], none⟩, 0), (⟨(some 72), .move (.t 11), none⟩, 0), (⟨(some 73), .append 3 1 8 (.t 71) (.t 72), none⟩, 1), (⟨(some 74), .buildSlice 22 1 1 [(.slice none 0 0)] [(0, (.t 73))], none⟩, 1), (⟨(some 75), .append 22 1 24 (.t 70) (.t 74), none⟩, 2), (⟨(some 76), .nilCheck (.t 65), none⟩, 2), (⟨(some 77), .faddr 0 (.t 76), none⟩, 2), (⟨(some 78), .faddr 2 (.t 77), none⟩, 2), (⟨none, .store 1 (.t 78) (.t 75), none⟩, 3)])
  (.seq (.draw [(⟨(some 80), .move (.t 8), none⟩, 1), (⟨(some 81), .nilCheck (.t 80), none⟩, 1), (⟨(some 82), .faddr 9 (.t 81), none⟩, 1), (⟨(some 83), .load (.t 82), none⟩, 1), (⟨(some 84), .move (.t 11), none⟩, 0), (⟨(some 85), .call 154 [(.t 84)], none⟩, 1), (⟨(some 86), .lookup (.one .str) (.int .i64 (.ofNat 0)) true (.t 83) (.t 85), none⟩, 1), (⟨(some 79), .move (.t 86), none⟩, 1), (⟨(some 87), .extract 0 (.t 79), none⟩, 1), (⟨(some 88), .extract 1 (.t 79), none⟩, 1), (⟨(some 12), .move (.t 87), none⟩, 1), (⟨(some 13), .move (.t 88), none⟩, 1)])
  (.seq (.reg [⟨(some 89), .move (.t 13), none⟩])
  (.cond (.t 89) (.reg [⟨(some 90), .move (.t 8), none⟩, ⟨(some 91), .move (.t 10), none⟩, ⟨(some 92), .call 160 [(.t 91)], none⟩, ⟨(some 93), .move (.t 12), none⟩, ⟨(some 94), .call 159 [(.t 90), (.t 92), (.t 93)], none⟩]) (.reg [⟨(some 95), .move (.t 8), none⟩, ⟨(some 96), .move (.t 11), none⟩, ⟨(some 97), .move (.t 9), none⟩, ⟨(some 98), .move (.t 10), none⟩, ⟨(some 99), .move (.t 10), none⟩, ⟨(some 100), .call 160 [(.t 99)], none⟩, ⟨(some 101), .call 157 [(.t 95), (.t 96), (.t 97), (.t 98), (.t 100)], none⟩])))))))
  (.reg [⟨(some 102), .bin .add (.t 60) (.c (.int .i64 (.ofNat 1))), none⟩, ⟨(some 60), .move (.t 102), none⟩])))))))
  (.seq (.reg [⟨(some 103), .move (.t 8), none⟩, ⟨(some 4), .move (.t 103), none⟩, ⟨(some 5), .move (.c (.int .i64 (.ofNat 0))), none⟩])
  .ret))))))))⟩
theorem c151_ok : cFunc Go.Proofs.Try.prog Go.Proofs.Try.f151 = some c151 := by kernel_rfl
/-- (*semigroup/enumerate.work).process -/
def c152 : CFunc := ⟨143, [.tmp 4], (.seq (.reg [⟨(some 4), .move (.c (.int .i64 (.ofNat 0))), none⟩])
  (.seq (.block 0 (.loop (.seq (.seq (.draw [(⟨(some 13), .move (.t 1), none⟩, 0), (⟨(some 14), .bin .gtr (.t 13) (.c (.int .i64 (.ofNat 0))), none⟩, 0), (⟨(some 15), .move (.t 14), none⟩, 0), (⟨(some 16), .move (.t 0), (some (15, true))⟩, 0), (⟨(some 17), .nilCheck (.t 16), (some (15, true))⟩, 0), (⟨(some 18), .faddr 0 (.t 17), (some (15, true))⟩, 0), (⟨(some 19), .faddr 8 (.t 18), (some (15, true))⟩, 0), (⟨(some 20), .load (.t 19), (some (15, true))⟩, 0), (⟨(some 21), .move (.t 0), (some (15, true))⟩, 0), (⟨(some 22), .nilCheck (.t 21), (some (15, true))⟩, 0), (⟨(some 23), .faddr 0 (.t 22), (some (15, true))⟩, 0), (⟨(some 24), .faddr 3 (.t 23), (some (15, true))⟩, 0), (⟨(some 25), .load (.t 24), (some (15, true))⟩, 0), (⟨(some 26), .lenSl (.t 25), (some (15, true))⟩, 0), (⟨(some 27), .bin .lss (.t 20) (.t 26), (some (15, true))⟩, 0), (⟨(some 28), .pick (.t 15) (.t 27) (.c (.bool false)), none⟩, 0)])
  (.cond (.t 28) .skip (.exit 0)))
  (.seq (.block 1 (.seq (.reg [⟨(some 31), .move (.t 0), none⟩, ⟨(some 32), .nilCheck (.t 31), none⟩, ⟨(some 33), .faddr 0 (.t 32), none⟩, ⟨(some 34), .faddr 8 (.t 33), none⟩, ⟨(some 35), .load (.t 34), none⟩, ⟨(some 5), .move (.t 35), none⟩])
  (.seq (.reg [⟨(some 36), .move (.t 0), none⟩, ⟨(some 37), .nilCheck (.t 36), none⟩, ⟨(some 38), .faddr 10 (.t 37), none⟩, ⟨(some 39), .load (.t 38), none⟩, ⟨(some 40), .move (.t 5), none⟩, ⟨(some 41), .iaddr 1 (.t 39) (.t 40), none⟩, ⟨(some 42), .load (.t 41), none⟩, ⟨(some 6), .move (.t 42), none⟩])
  (.seq (.reg [⟨(some 43), .move (.t 0), none⟩, ⟨(some 44), .nilCheck (.t 43), none⟩, ⟨(some 45), .faddr 0 (.t 44), none⟩, ⟨(some 46), .faddr 2 (.t 45), none⟩, ⟨(some 47), .load (.t 46), none⟩, ⟨(some 48), .lenSl (.t 47), none⟩, ⟨(some 49), .mkSlice 3 8 1 [(.int .i64 (.ofNat 0))] (.t 48) (.t 48), none⟩, ⟨(some 7), .move (.t 49), none⟩])
  (.seq (.seq (.reg [⟨(some 50), .move (.t 0), none⟩, ⟨(some 51), .nilCheck (.t 50), none⟩, ⟨(some 52), .faddr 0 (.t 51), none⟩, ⟨(some 53), .faddr 2 (.t 52), none⟩, ⟨(some 54), .load (.t 53), none⟩, ⟨(some 55), .lenSl (.t 54), none⟩, ⟨(some 56), .move (.c (.int .i64 (.ofNat 0))), none⟩])
  (.block 2 (.loop (.seq (.reg [⟨(some 57), .bin .lss (.t 56) (.t 55), none⟩])
  (.seq (.cond (.t 57) .skip (.exit 2))
  (.seq (.block 3 (.seq (.reg [⟨(some 58), .move (.t 56), none⟩, ⟨(some 59), .iaddr 1 (.t 54) (.t 56), none⟩, ⟨(some 60), .load (.t 59), none⟩, ⟨(some 8), .move (.t 58), none⟩, ⟨(some 9), .move (.t 60), none⟩])
  (.seq (.reg [⟨(some 61), .move (.t 0), none⟩, ⟨(some 62), .nilCheck (.t 61), none⟩, ⟨(some 63), .faddr 0 (.t 62), none⟩, ⟨(some 64), .faddr 3 (.t 63), none⟩, ⟨(some 65), .load (.t 64), none⟩, ⟨(some 66), .move (.t 5), none⟩, ⟨(some 67), .iaddr 1 (.t 65) (.t 66), none⟩, ⟨(some 68), .load (.t 67), none⟩, ⟨(some 69), .move (.t 9), none⟩, ⟨(some 70), .call 155 [(.t 68), (.t 69)], none⟩, ⟨(some 10), .move (.t 70), none⟩])
  (.seq (.draw [(⟨(some 72), .move (.t 0), none⟩, 1), (⟨(some 73), .nilCheck (.t 72), none⟩, 1), (⟨(some 74), .faddr 9 (.t 73), none⟩, 1), (⟨(some 75), .load (.t 74), none⟩, 1), (⟨(some 76), .move (.t 10), none⟩, 0), (⟨(some 77), .call 154 [(.t 76)], none⟩, 1), (⟨(some 78), .lookup (.one .str) (.int .i64 (.ofNat 0)) true (.t 75) (.t 77), none⟩, 1), (⟨(some 71), .move (.t 78), none⟩, 1), (⟨(some 79), .extract 0 (.t 71), none⟩, 1), (⟨(some 80), .extract 1 (.t 71), none⟩, 1), (⟨(some 11), .move (.t 79), none⟩, 1), (⟨(some 12), .move (.t 80), none⟩, 1)])
  (.seq (.seq (.reg [⟨(some 81), .move (.t 12), none⟩, ⟨(some 82), .not (.t 81), none⟩])
  (.cond (.t 82) (.seq (.seq (.reg [⟨(some 83), .move (.t 0), none⟩, ⟨(some 84), .nilCheck (.t 83), none⟩, ⟨(some 85), .faddr 0 (.t 84), none⟩, ⟨(some 86), .faddr 3 (.t 85), none⟩, ⟨(some 87), .load (.t 86), none⟩, ⟨(some 88), .lenSl (.t 87), none⟩, ⟨(some 89), .bin .geq (.t 88) (.c (.int .i64 (.ofNat 2000))), none⟩])
  (.cond (.t 89) (.seq (.reg [⟨(some 4), .move (.c (.int .i64 (.ofNat 3))), none⟩])
  .ret) .skip))
  (.reg [⟨(some 90), .move (.t 0), none⟩, ⟨(some 91), .move (.t 10), none⟩, ⟨(some 92), .move (.t 5), none⟩, ⟨(some 93), .move (.t 8), none⟩, ⟨(some 94), .move (.t 6), none⟩, ⟨(some 95), .move (.t 8), none⟩, ⟨(some 96), .call 160 [(.t 95)], none⟩, ⟨(some 97), .bin .add (.t 94) (.t 96), none⟩, ⟨(some 98), .call 157 [(.t 90), (.t 91), (.t 92), (.t 93), (.t 97)], none⟩, ⟨(some 11), .move (.t 98), none⟩])) (.seq (.draw [(⟨(some 99), .move (.t 6), none⟩, 0), (⟨(some 100), .bin .neq (.t 99) (.c (.string ⟨⟨[]⟩⟩)), none⟩, 0), (⟨(some 101), .move (.t 100), none⟩, 0), (⟨(some 102), .move (.t 0), (some (101, true))⟩, 1), (⟨(some 103), .move (.t 6), (some (101, true))⟩, 1), (⟨(some 104), .sub (.t 103) (some (.c (.int .i64 (.ofNat 1)))) none, (some (101, true))⟩, 1), (⟨(some 105), .move (.t 8), (some (101, true))⟩, 0), (⟨(some 106), .call 160 [(.t 105)], (some (101, true))⟩, 1), (⟨(some 107), .bin .add (.t 104) (.t 106), (some (101, true))⟩, 1), (⟨(some 108), .call 161 [(.t 102), (.t 107)], (some (101, true))⟩, 2), (⟨(some 109), .pick (.t 101) (.t 108) (.c (.bool false)), none⟩, 2)])
  (.cond (.t 109) (.reg [⟨(some 110), .move (.t 0), none⟩, ⟨(some 111), .move (.t 6), none⟩, ⟨(some 112), .move (.t 8), none⟩, ⟨(some 113), .call 160 [(.t 112)], none⟩, ⟨(some 114), .bin .add (.t 111) (.t 113), none⟩, ⟨(some 115), .move (.t 11), none⟩, ⟨(some 116), .call 159 [(.t 110), (.t 114), (.t 115)], none⟩]) .skip))))
  (.reg [⟨(some 117), .move (.t 7), none⟩, ⟨(some 118), .move (.t 8), none⟩, ⟨(some 119), .move (.t 11), none⟩, ⟨(some 120), .iaddr 1 (.t 117) (.t 118), none⟩, ⟨none, .store 1 (.t 120) (.t 119), none⟩]))))))
  (.reg [⟨(some 121), .bin .add (.t 56) (.c (.int .i64 (.ofNat 1))), none⟩, ⟨(some 56), .move (.t 121), none⟩])))))))
  (.seq (.reg [⟨(some 122), .move (.t 0), none⟩, ⟨(some 123), .move (.t 0), none⟩, ⟨(some 124), .nilCheck (.t 123), none⟩, ⟨(some 125), .faddr 0 (.t 124), none⟩, ⟨(some 126), .faddr 6 (.t 125), none⟩, ⟨(some 127), .load (.t 126), none⟩, ⟨(some 128), .move (.t 7), none⟩, ⟨(some 129), .buildSlice 22 1 1 [(.slice none 0 0)] [(0, (.t 128))], none⟩, ⟨(some 130), .append 22 1 24 (.t 127) (.t 129), none⟩, ⟨(some 131), .nilCheck (.t 122), none⟩, ⟨(some 132), .faddr 0 (.t 131), none⟩, ⟨(some 133), .faddr 6 (.t 132), none⟩, ⟨none, .store 1 (.t 133) (.t 130), none⟩])
  (.reg [⟨(some 134), .move (.t 0), none⟩, ⟨(some 135), .nilCheck (.t 134), none⟩, ⟨(some 136), .faddr 0 (.t 135), none⟩, ⟨(some 137), .faddr 8 (.t 136), none⟩, ⟨(some 138), .load (.t 137), none⟩, ⟨(some 139), .bin .add (.t 138) (.c (.int .i64 (.ofNat 1))), none⟩, ⟨(some 140), .nilCheck (.t 134), none⟩, ⟨(some 141), .faddr 0 (.t 140), none⟩, ⟨(some 142), .faddr 8 (.t 141), none⟩, ⟨none, .store 1 (.t 142) (.t 139), none⟩])))))))
  (.reg [⟨(some 29), .move (.t 1), none⟩, ⟨(some 30), .bin .sub (.t 29) (.c (.int .i64 (.ofNat 1))), none⟩, ⟨(some 1), .move (.t 30), none⟩])))))
  (.seq (.reg [⟨(some 4), .move (.c (.int .i64 (.ofNat 0))), none⟩])
  .ret)))⟩
theorem c152_ok : cFunc Go.Proofs.Try.prog Go.Proofs.Try.f152 = some c152 := by kernel_rfl
/-- semigroup/enumerate.again -/
def c153 : CFunc := ⟨144, [.tmp 2], (.seq (.reg [⟨(some 1), .box 163 (.t 0), none⟩, ⟨(some 2), .move (.c (.pointer none)), none⟩])
  (.seq (.seq (.reg [⟨(some 6), .faddr 3 (.t 1), none⟩, ⟨(some 7), .load (.t 6), none⟩, ⟨(some 8), .lenSl (.t 7), none⟩, ⟨(some 9), .bin .gtr (.t 8) (.c (.int .i64 (.ofNat 2000))), none⟩, ⟨(some 10), .move (.t 9), none⟩, ⟨(some 11), .faddr 8 (.t 1), (some (10, false))⟩, ⟨(some 12), .load (.t 11), (some (10, false))⟩, ⟨(some 13), .bin .lss (.t 12) (.c (.int .i64 (.ofNat 0))), (some (10, false))⟩, ⟨(some 14), .pick (.t 10) (.c (.bool true)) (.t 13), none⟩, ⟨(some 15), .move (.t 14), none⟩, ⟨(some 16), .faddr 8 (.t 1), (some (15, false))⟩, ⟨(some 17), .load (.t 16), (some (15, false))⟩, ⟨(some 18), .faddr 3 (.t 1), (some (15, false))⟩, ⟨(some 19), .load (.t 18), (some (15, false))⟩, ⟨(some 20), .lenSl (.t 19), (some (15, false))⟩, ⟨(some 21), .bin .gtr (.t 17) (.t 20), (some (15, false))⟩, ⟨(some 22), .pick (.t 15) (.c (.bool true)) (.t 21), none⟩, ⟨(some 23), .move (.t 22), none⟩, ⟨(some 24), .faddr 8 (.t 1), (some (23, false))⟩, ⟨(some 25), .load (.t 24), (some (23, false))⟩, ⟨(some 26), .faddr 6 (.t 1), (some (23, false))⟩, ⟨(some 27), .load (.t 26), (some (23, false))⟩, ⟨(some 28), .lenSl (.t 27), (some (23, false))⟩, ⟨(some 29), .bin .neq (.t 25) (.t 28), (some (23, false))⟩, ⟨(some 30), .pick (.t 23) (.c (.bool true)) (.t 29), none⟩])
  (.cond (.t 30) (.seq (.reg [⟨(some 2), .move (.c (.pointer none)), none⟩])
  .ret) .skip))
  (.seq (.reg [⟨(some 32), .faddr 2 (.t 1), none⟩, ⟨(some 33), .load (.t 32), none⟩, ⟨(some 34), .faddr 1 (.t 1), none⟩, ⟨(some 35), .load (.t 34), none⟩, ⟨(some 36), .call 151 [(.t 33), (.t 35)], none⟩, ⟨(some 31), .move (.t 36), none⟩, ⟨(some 37), .extract 0 (.t 31), none⟩, ⟨(some 38), .extract 1 (.t 31), none⟩, ⟨(some 3), .move (.t 37), none⟩, ⟨(some 4), .move (.t 38), none⟩])
  (.seq (.seq (.reg [⟨(some 39), .move (.t 4), none⟩, ⟨(some 40), .bin .neq (.t 39) (.c (.int .i64 (.ofNat 0))), none⟩, ⟨(some 41), .move (.t 40), none⟩, ⟨(some 42), .move (.t 3), (some (41, false))⟩, ⟨(some 43), .faddr 8 (.t 1), (some (41, false))⟩, ⟨(some 44), .load (.t 43), (some (41, false))⟩, ⟨(some 45), .call 152 [(.t 42), (.t 44)], (some (41, false))⟩, ⟨(some 46), .bin .neq (.t 45) (.c (.int .i64 (.ofNat 0))), (some (41, false))⟩, ⟨(some 47), .pick (.t 41) (.c (.bool true)) (.t 46), none⟩])
  (.cond (.t 47) (.seq (.reg [⟨(some 2), .move (.c (.pointer none)), none⟩])
  .ret) .skip))
  (.seq (.seq (.draw [(⟨(some 48), .move (.t 3), none⟩, 0), (⟨(some 49), .nilCheck (.t 48), none⟩, 0), (⟨(some 50), .faddr 0 (.t 49), none⟩, 0), (⟨(some 51), .faddr 0 (.t 50), none⟩, 0), (⟨(some 52), .load (.t 51), none⟩, 0), (⟨(some 53), .faddr 0 (.t 1), none⟩, 0), (⟨(some 54), .load (.t 53), none⟩, 0), (⟨(some 55), .bin .neq (.t 52) (.t 54), none⟩, 0), (⟨(some 56), .move (.t 55), none⟩, 0), (⟨(some 57), .move (.t 3), (some (56, false))⟩, 0), (⟨(some 58), .nilCheck (.t 57), (some (56, false))⟩, 0), (⟨(some 59), .faddr 0 (.t 58), (some (56, false))⟩, 0), (⟨(some 60), .faddr 8 (.t 59), (some (56, false))⟩, 0), (⟨(some 61), .load (.t 60), (some (56, false))⟩, 0), (⟨(some 62), .faddr 8 (.t 1), (some (56, false))⟩, 0), (⟨(some 63), .load (.t 62), (some (56, false))⟩, 0), (⟨(some 64), .bin .neq (.t 61) (.t 63), (some (56, false))⟩, 0), (⟨(some 65), .pick (.t 56) (.c (.bool true)) (.t 64), none⟩, 0), (⟨(some 66), .move (.t 65), none⟩, 0), (⟨(some 67), .move (.t 3), (some (66, false))⟩, 0), (⟨(some 68), .nilCheck (.t 67), (some (66, false))⟩, 0), (⟨(some 69), .faddr 0 (.t 68), (some (66, false))⟩, 0), (⟨(some 70), .faddr 3 (.t 69), (some (66, false))⟩, 0), (⟨(some 71), .load (.t 70), (some (66, false))⟩, 0), (⟨(some 72), .faddr 3 (.t 1), (some (66, false))⟩, 0), (⟨(some 73), .load (.t 72), (some (66, false))⟩, 0), (⟨(some 74), .call 162 [(.t 71), (.t 73)], (some (66, false))⟩, 1), (⟨(some 75), .not (.t 74), (some (66, false))⟩, 1), (⟨(some 76), .pick (.t 66) (.c (.bool true)) (.t 75), none⟩, 1), (⟨(some 77), .move (.t 76), none⟩, 1), (⟨(some 78), .move (.t 3), (some (77, false))⟩, 1), (⟨(some 79), .nilCheck (.t 78), (some (77, false))⟩, 1), (⟨(some 80), .faddr 0 (.t 79), (some (77, false))⟩, 1), (⟨(some 81), .faddr 6 (.t 80), (some (77, false))⟩, 1), (⟨(some 82), .load (.t 81), (some (77, false))⟩, 1), (⟨(some 83), .faddr 6 (.t 1), (some (77, false))⟩, 1), (⟨(some 84), .load (.t 83), (some (77, false))⟩, 1), (⟨(some 85), .call 162 [(.t 82), (.t 84)], (some (77, false))⟩, 2), (⟨(some 86), .not (.t 85), (some (77, false))⟩, 2), (⟨(some 87), .pick (.t 77) (.c (.bool true)) (.t 86), none⟩, 2), (⟨(some 88), .move (.t 87), none⟩, 2), (⟨(some 89), .move (.t 3), (some (88, false))⟩, 2), (⟨(some 90), .nilCheck (.t 89), (some (88, false))⟩, 2), (⟨(some 91), .faddr 0 (.t 90), (some (88, false))⟩, 2), (⟨(some 92), .faddr 4 (.t 91), (some (88, false))⟩, 2), (⟨(some 93), .load (.t 92), (some (88, false))⟩, 2), (⟨(some 94), .faddr 4 (.t 1), (some (88, false))⟩, 2), (⟨(some 95), .load (.t 94), (some (88, false))⟩, 2), (⟨(some 96), .call 163 [(.t 93), (.t 95)], (some (88, false))⟩, 3), (⟨(some 97), .not (.t 96), (some (88, false))⟩, 3), (⟨(some 98), .pick (.t 88) (.c (.bool true)) (.t 97), none⟩, 3), (⟨(some 99), .move (.t 98), none⟩, 3), (⟨(some 100), .move (.t 3), (some (99, false))⟩, 3), (⟨(some 101), .nilCheck (.t 100), (some (99, false))⟩, 3), (⟨(some 102), .faddr 0 (.t 101), (some (99, false))⟩, 3), (⟨(some 103), .faddr 5 (.t 102), (some (99, false))⟩, 3), (⟨(some 104), .load (.t 103), (some (99, false))⟩, 3), (⟨(some 105), .faddr 5 (.t 1), (some (99, false))⟩, 3), (⟨(some 106), .load (.t 105), (some (99, false))⟩, 3), (⟨(some 107), .call 163 [(.t 104), (.t 106)], (some (99, false))⟩, 4), (⟨(some 108), .not (.t 107), (some (99, false))⟩, 4), (⟨(some 109), .pick (.t 99) (.c (.bool true)) (.t 108), none⟩, 4), (⟨(some 110), .move (.t 109), none⟩, 4), (⟨(some 111), .move (.t 3), (some (110, false))⟩, 4), (⟨(some 112), .nilCheck (.t 111), (some (110, false))⟩, 4), (⟨(some 113), .faddr 0 (.t 112), (some (110, false))⟩, 4), (⟨(some 114), .faddr 7 (.t 113), (some (110, false))⟩, 4), (⟨(some 115), .load (.t 114), (some (110, false))⟩, 4), (⟨(some 116), .lenSl (.t 115), (some (110, false))⟩, 4), (⟨(some 117), .faddr 7 (.t 1), (some (110, false))⟩, 4), (⟨(some 118), .load (.t 117), (some (110, false))⟩, 4), (⟨(some 119), .lenSl (.t 118), (some (110, false))⟩, 4), (⟨(some 120), .bin .neq (.t 116) (.t 119), (some (110, false))⟩, 4), (⟨(some 121), .pick (.t 110) (.c (.bool true)) (.t 120), none⟩, 4)])
  (.cond (.t 121) (.seq (.reg [⟨(some 2), .move (.c (.pointer none)), none⟩])
  .ret) .skip))
  (.seq (.seq (.reg [⟨(some 122), .faddr 7 (.t 1), none⟩, ⟨(some 123), .load (.t 122), none⟩, ⟨(some 124), .lenSl (.t 123), none⟩, ⟨(some 125), .move (.c (.int .i64 (.ofNat 0))), none⟩])
  (.block 0 (.loop (.seq (.reg [⟨(some 126), .bin .lss (.t 125) (.t 124), none⟩])
  (.seq (.cond (.t 126) .skip (.exit 0))
  (.seq (.block 1 (.seq (.reg [⟨(some 127), .move (.t 125), none⟩, ⟨(some 5), .move (.t 127), none⟩])
  (.seq (.draw [(⟨(some 128), .move (.t 3), none⟩, 0), (⟨(some 129), .nilCheck (.t 128), none⟩, 0), (⟨(some 130), .faddr 0 (.t 129), none⟩, 0), (⟨(some 131), .faddr 7 (.t 130), none⟩, 0), (⟨(some 132), .load (.t 131), none⟩, 0), (⟨(some 133), .move (.t 5), none⟩, 0), (⟨(some 134), .iaddr 2 (.t 132) (.t 133), none⟩, 0), (⟨(some 135), .loadN 2 (.t 134), none⟩, 0), (⟨(some 136), .faddr 7 (.t 1), none⟩, 0), (⟨(some 137), .load (.t 136), none⟩, 0), (⟨(some 138), .move (.t 5), none⟩, 0), (⟨(some 139), .iaddr 2 (.t 137) (.t 138), none⟩, 0), (⟨(some 140), .loadN 2 (.t 139), none⟩, 0), (⟨(some 141), .eqFlat (.row [.str, .str]) true (.t 135) (.t 140), none⟩, 0)])
  (.cond (.t 141) (.seq (.reg [⟨(some 2), .move (.c (.pointer none)), none⟩])
  .ret) .skip))))
  (.reg [⟨(some 142), .bin .add (.t 125) (.c (.int .i64 (.ofNat 1))), none⟩, ⟨(some 125), .move (.t 142), none⟩])))))))
  (.seq (.reg [⟨(some 143), .move (.t 3), none⟩, ⟨(some 2), .move (.t 143), none⟩])
  .ret)))))))⟩
theorem c153_ok : cFunc Go.Proofs.Try.prog Go.Proofs.Try.f153 = some c153 := by kernel_rfl
/-- semigroup/enumerate.key -/
def c154 : CFunc := ⟨24, [.tmp 2], (.seq (.reg [⟨(some 2), .move (.c (.string ⟨⟨[]⟩⟩)), none⟩])
  (.seq (.reg [⟨(some 6), .move (.t 0), none⟩, ⟨(some 7), .lenSl (.t 6), none⟩, ⟨(some 8), .mkSlice 5 1 1 [(.int .u8 (.ofNat 0))] (.t 7) (.t 7), none⟩, ⟨(some 3), .move (.t 8), none⟩])
  (.seq (.seq (.reg [⟨(some 9), .move (.t 0), none⟩, ⟨(some 10), .lenSl (.t 9), none⟩, ⟨(some 11), .move (.c (.int .i64 (.ofNat 0))), none⟩])
  (.block 0 (.loop (.seq (.reg [⟨(some 12), .bin .lss (.t 11) (.t 10), none⟩])
  (.seq (.cond (.t 12) .skip (.exit 0))
  (.seq (.block 1 (.seq (.reg [⟨(some 13), .move (.t 11), none⟩, ⟨(some 14), .iaddr 1 (.t 9) (.t 11), none⟩, ⟨(some 15), .load (.t 14), none⟩, ⟨(some 4), .move (.t 13), none⟩, ⟨(some 5), .move (.t 15), none⟩])
  (.reg [⟨(some 16), .move (.t 3), none⟩, ⟨(some 17), .move (.t 4), none⟩, ⟨(some 18), .move (.t 5), none⟩, ⟨(some 19), .conv .u8 (.t 18), none⟩, ⟨(some 20), .iaddr 1 (.t 16) (.t 17), none⟩, ⟨none, .store 1 (.t 20) (.t 19), none⟩])))
  (.reg [⟨(some 21), .bin .add (.t 11) (.c (.int .i64 (.ofNat 1))), none⟩, ⟨(some 11), .move (.t 21), none⟩])))))))
  (.seq (.reg [⟨(some 22), .move (.t 3), none⟩, ⟨(some 23), .strOf (.t 22), none⟩, ⟨(some 2), .move (.t 23), none⟩])
  .ret))))⟩
theorem c154_ok : cFunc Go.Proofs.Try.prog Go.Proofs.Try.f154 = some c154 := by kernel_rfl
/-- semigroup/trans.Compose -/
def c155 : CFunc := ⟨23, [.tmp 4], (.seq (.reg [⟨(some 4), .move (.c (.slice none 0 0)), none⟩])
  (.seq (.seq (.reg [⟨(some 5), .move (.t 0), none⟩, ⟨(some 6), .lenSl (.t 5), none⟩, ⟨(some 7), .move (.t 1), none⟩, ⟨(some 8), .lenSl (.t 7), none⟩, ⟨(some 9), .bin .neq (.t 6) (.t 8), none⟩, ⟨(some 10), .move (.t 9), none⟩, ⟨(some 11), .move (.t 0), (some (10, false))⟩, ⟨(some 12), .call 156 [(.t 11)], (some (10, false))⟩, ⟨(some 13), .not (.t 12), (some (10, false))⟩, ⟨(some 14), .pick (.t 10) (.c (.bool true)) (.t 13), none⟩, ⟨(some 15), .move (.t 14), none⟩, ⟨(some 16), .move (.t 1), (some (15, false))⟩, ⟨(some 17), .call 156 [(.t 16)], (some (15, false))⟩, ⟨(some 18), .not (.t 17), (some (15, false))⟩, ⟨(some 19), .pick (.t 15) (.c (.bool true)) (.t 18), none⟩])
  (.cond (.t 19) (.seq (.reg [⟨(some 4), .move (.c (.slice none 0 0)), none⟩])
  .ret) .skip))
  (.seq (.reg [⟨(some 20), .move (.t 0), none⟩, ⟨(some 21), .move (.t 1), none⟩, ⟨(some 22), .call 164 [(.t 20), (.t 21)], none⟩, ⟨(some 4), .move (.t 22), none⟩])
  .ret)))⟩
theorem c155_ok : cFunc Go.Proofs.Try.prog Go.Proofs.Try.f155 = some c155 := by kernel_rfl
/-- semigroup/trans.Valid -/
def c156 : CFunc := ⟨28, [.tmp 2], (.seq (.reg [⟨(some 2), .move (.c (.bool false)), none⟩])
  (.seq (.seq (.reg [⟨(some 5), .move (.t 0), none⟩, ⟨(some 6), .lenSl (.t 5), none⟩, ⟨(some 7), .bin .lss (.t 6) (.c (.int .i64 (.ofNat 1))), none⟩, ⟨(some 8), .move (.t 7), none⟩, ⟨(some 9), .move (.t 0), (some (8, false))⟩, ⟨(some 10), .lenSl (.t 9), (some (8, false))⟩, ⟨(some 11), .bin .gtr (.t 10) (.c (.int .i64 (.ofNat 32))), (some (8, false))⟩, ⟨(some 12), .pick (.t 8) (.c (.bool true)) (.t 11), none⟩])
  (.cond (.t 12) (.seq (.reg [⟨(some 2), .move (.c (.bool false)), none⟩])
  .ret) .skip))
  (.seq (.seq (.reg [⟨(some 13), .move (.t 0), none⟩, ⟨(some 14), .lenSl (.t 13), none⟩, ⟨(some 15), .move (.c (.int .i64 (.ofNat 0))), none⟩])
  (.block 0 (.loop (.seq (.reg [⟨(some 16), .bin .lss (.t 15) (.t 14), none⟩])
  (.seq (.cond (.t 16) .skip (.exit 0))
  (.seq (.block 1 (.seq (.reg [⟨(some 17), .iaddr 1 (.t 13) (.t 15), none⟩, ⟨(some 18), .load (.t 17), none⟩, ⟨(some 4), .move (.t 18), none⟩])
  (.seq (.reg [⟨(some 19), .move (.t 4), none⟩, ⟨(some 20), .bin .lss (.t 19) (.c (.int .i64 (.ofNat 0))), none⟩, ⟨(some 21), .move (.t 20), none⟩, ⟨(some 22), .move (.t 4), (some (21, false))⟩, ⟨(some 23), .move (.t 0), (some (21, false))⟩, ⟨(some 24), .lenSl (.t 23), (some (21, false))⟩, ⟨(some 25), .bin .geq (.t 22) (.t 24), (some (21, false))⟩, ⟨(some 26), .pick (.t 21) (.c (.bool true)) (.t 25), none⟩])
  (.cond (.t 26) (.seq (.reg [⟨(some 2), .move (.c (.bool false)), none⟩])
  .ret) .skip))))
  (.reg [⟨(some 27), .bin .add (.t 15) (.c (.int .i64 (.ofNat 1))), none⟩, ⟨(some 15), .move (.t 27), none⟩])))))))
  (.seq (.reg [⟨(some 2), .move (.c (.bool true)), none⟩])
  .ret))))⟩
theorem c156_ok : cFunc Go.Proofs.Try.prog Go.Proofs.Try.f156 = some c156 := by kernel_rfl
/-- (*semigroup/enumerate.work).add -/
def c157 : CFunc := ⟨74, [.tmp 10], (.seq (.reg [⟨(some 10), .move (.c (.int .i64 (.ofNat 0))), none⟩])
  (.seq (.reg [⟨(some 12), .move (.t 0), none⟩, ⟨(some 13), .nilCheck (.t 12), none⟩, ⟨(some 14), .faddr 0 (.t 13), none⟩, ⟨(some 15), .faddr 3 (.t 14), none⟩, ⟨(some 16), .load (.t 15), none⟩, ⟨(some 17), .lenSl (.t 16), none⟩, ⟨(some 11), .move (.t 17), none⟩])
  (.seq (.draw [(⟨(some 18), .move (.t 0), none⟩, 1), (⟨(some 19), .nilCheck (.t 18), none⟩, 1), (⟨(some 20), .faddr 9 (.t 19), none⟩, 1), (⟨(some 21), .load (.t 20), none⟩, 1), (⟨(some 22), .move (.t 1), none⟩, 0), (⟨(some 24), .move (.t 11), none⟩, 1), (⟨(some 23), .call 154 [(.t 22)], none⟩, 1), (⟨none, .mapSet (.one .str) (.t 21) (.t 23) (.t 24), none⟩, 2)])
  (.seq (.draw [(⟨(some 25), .move (.t 0), none⟩, 2), (⟨(some 26), .move (.t 0), none⟩, 1), (⟨(some 27), .nilCheck (.t 26), none⟩, 1), (⟨(some 28), .faddr 0 (.t 27), none⟩, 1), (⟨(some 29), .faddr 3 (.t 28), none⟩, 1), (⟨(some 30), .load (.t 29), none⟩, 1), (⟨(some 31), .buildSlice 3 1 0 [] [], none⟩, 0), (⟨(some 32), .move (.t 1), none⟩, 0), (⟨(some 33), .append 3 1 8 (.t 31) (.t 32), none⟩, 1), (⟨(some 34), .buildSlice 22 1 1 [(.slice none 0 0)] [(0, (.t 33))], none⟩, 1), (⟨(some 35), .append 22 1 24 (.t 30) (.t 34), none⟩, 2), (⟨(some 36), .nilCheck (.t 25), none⟩, 2), (⟨(some 37), .faddr 0 (.t 36), none⟩, 2), (⟨(some 38), .faddr 3 (.t 37), none⟩, 2), (⟨none, .store 1 (.t 38) (.t 35), none⟩, 3)])
  (.seq (.draw [(⟨(some 39), .move (.t 0), none⟩, 2), (⟨(some 40), .move (.t 0), none⟩, 3), (⟨(some 41), .move (.t 0), none⟩, 0), (⟨(some 42), .nilCheck (.t 41), none⟩, 0), (⟨(some 43), .faddr 0 (.t 42), none⟩, 0), (⟨(some 44), .faddr 4 (.t 43), none⟩, 0), (⟨(some 45), .load (.t 44), none⟩, 0), (⟨(some 46), .move (.t 2), none⟩, 0), (⟨(some 47), .buildSlice 3 1 1 [(.int .i64 (.ofNat 0))] [(0, (.t 46))], none⟩, 0), (⟨(some 49), .move (.t 0), none⟩, 1), (⟨(some 50), .nilCheck (.t 49), none⟩, 1), (⟨(some 51), .faddr 0 (.t 50), none⟩, 1), (⟨(some 52), .faddr 5 (.t 51), none⟩, 1), (⟨(some 53), .load (.t 52), none⟩, 1), (⟨(some 54), .move (.t 3), none⟩, 1), (⟨(some 55), .buildSlice 3 1 1 [(.int .i64 (.ofNat 0))] [(0, (.t 54))], none⟩, 1), (⟨(some 48), .append 3 1 8 (.t 45) (.t 47), none⟩, 1), (⟨(some 56), .append 3 1 8 (.t 53) (.t 55), none⟩, 2), (⟨(some 57), .nilCheck (.t 39), none⟩, 2), (⟨(some 58), .faddr 0 (.t 57), none⟩, 2), (⟨(some 59), .faddr 4 (.t 58), none⟩, 2), (⟨none, .store 1 (.t 59) (.t 48), none⟩, 3), (⟨(some 60), .nilCheck (.t 40), none⟩, 3), (⟨(some 61), .faddr 0 (.t 60), none⟩, 3), (⟨(some 62), .faddr 5 (.t 61), none⟩, 3), (⟨none, .store 1 (.t 62) (.t 56), none⟩, 4)])
  (.seq (.reg [⟨(some 63), .move (.t 0), none⟩, ⟨(some 64), .move (.t 0), none⟩, ⟨(some 65), .nilCheck (.t 64), none⟩, ⟨(some 66), .faddr 10 (.t 65), none⟩, ⟨(some 67), .load (.t 66), none⟩, ⟨(some 68), .move (.t 4), none⟩, ⟨(some 69), .buildSlice 9 1 1 [(.string ⟨⟨[]⟩⟩)] [(0, (.t 68))], none⟩, ⟨(some 70), .append 9 1 16 (.t 67) (.t 69), none⟩, ⟨(some 71), .nilCheck (.t 63), none⟩, ⟨(some 72), .faddr 10 (.t 71), none⟩, ⟨none, .store 1 (.t 72) (.t 70), none⟩])
  (.seq (.reg [⟨(some 73), .move (.t 11), none⟩, ⟨(some 10), .move (.t 73), none⟩])
  .ret)))))))⟩
theorem c157_ok : cFunc Go.Proofs.Try.prog Go.Proofs.Try.f157 = some c157 := by kernel_rfl
/-- semigroup/trans.Identity -/
def c158 : CFunc := ⟨11, [.tmp 2], (.seq (.reg [⟨(some 2), .move (.c (.slice none 0 0)), none⟩])
  (.seq (.seq (.reg [⟨(some 3), .move (.t 0), none⟩, ⟨(some 4), .bin .lss (.t 3) (.c (.int .i64 (.ofNat 1))), none⟩, ⟨(some 5), .move (.t 4), none⟩, ⟨(some 6), .move (.t 0), (some (5, false))⟩, ⟨(some 7), .bin .gtr (.t 6) (.c (.int .i64 (.ofNat 32))), (some (5, false))⟩, ⟨(some 8), .pick (.t 5) (.c (.bool true)) (.t 7), none⟩])
  (.cond (.t 8) (.seq (.reg [⟨(some 2), .move (.c (.slice none 0 0)), none⟩])
  .ret) .skip))
  (.seq (.reg [⟨(some 9), .move (.t 0), none⟩, ⟨(some 10), .call 165 [(.t 9)], none⟩, ⟨(some 2), .move (.t 10), none⟩])
  .ret)))⟩
theorem c158_ok : cFunc Go.Proofs.Try.prog Go.Proofs.Try.f158 = some c158 := by kernel_rfl
/-- (*semigroup/enumerate.work).rule -/
def c159 : CFunc := ⟨26, [], (.draw [(⟨(some 6), .move (.t 0), none⟩, 1), (⟨(some 7), .move (.t 0), none⟩, 0), (⟨(some 8), .nilCheck (.t 7), none⟩, 0), (⟨(some 9), .faddr 0 (.t 8), none⟩, 0), (⟨(some 10), .faddr 7 (.t 9), none⟩, 0), (⟨(some 11), .load (.t 10), none⟩, 0), (⟨(some 12), .move (.t 1), none⟩, 0), (⟨(some 13), .move (.t 0), none⟩, 0), (⟨(some 14), .nilCheck (.t 13), none⟩, 0), (⟨(some 15), .faddr 10 (.t 14), none⟩, 0), (⟨(some 16), .load (.t 15), none⟩, 0), (⟨(some 17), .move (.t 2), none⟩, 0), (⟨(some 18), .iaddr 1 (.t 16) (.t 17), none⟩, 0), (⟨(some 19), .load (.t 18), none⟩, 0), (⟨(some 20), .build [(.string ⟨⟨[]⟩⟩), (.string ⟨⟨[]⟩⟩)] [(0, 1, (.t 12)), (1, 1, (.t 19))], none⟩, 0), (⟨(some 21), .buildSlice 197 2 1 [(.string ⟨⟨[]⟩⟩), (.string ⟨⟨[]⟩⟩)] [(0, (.t 20))], none⟩, 0), (⟨(some 22), .append 197 2 32 (.t 11) (.t 21), none⟩, 1), (⟨(some 23), .nilCheck (.t 6), none⟩, 1), (⟨(some 24), .faddr 0 (.t 23), none⟩, 1), (⟨(some 25), .faddr 7 (.t 24), none⟩, 1), (⟨none, .store 1 (.t 25) (.t 22), none⟩, 2)])⟩
theorem c159_ok : cFunc Go.Proofs.Try.prog Go.Proofs.Try.f159 = some c159 := by kernel_rfl
/-- semigroup/enumerate.letter -/
def c160 : CFunc := ⟨7, [.tmp 2], (.seq (.reg [⟨(some 2), .move (.c (.string ⟨⟨[]⟩⟩)), none⟩])
  (.seq (.reg [⟨(some 3), .move (.t 0), none⟩, ⟨(some 4), .move (.t 0), none⟩, ⟨(some 5), .bin .add (.t 4) (.c (.int .i64 (.ofNat 1))), none⟩, ⟨(some 6), .sub (.c (.string ⟨⟨[97, 98, 99, 100, 101, 102]⟩⟩)) (some (.t 3)) (some (.t 5)), none⟩, ⟨(some 2), .move (.t 6), none⟩])
  .ret))⟩
theorem c160_ok : cFunc Go.Proofs.Try.prog Go.Proofs.Try.f160 = some c160 := by kernel_rfl
/-- (*semigroup/enumerate.work).reduced -/
def c161 : CFunc := ⟨37, [.tmp 4], (.seq (.reg [⟨(some 4), .move (.c (.bool false)), none⟩])
  (.seq (.reg [⟨(some 8), .move (.t 0), none⟩, ⟨(some 9), .nilCheck (.t 8), none⟩, ⟨(some 10), .faddr 0 (.t 9), none⟩, ⟨(some 11), .faddr 2 (.t 10), none⟩, ⟨(some 12), .load (.t 11), none⟩, ⟨(some 13), .move (.t 1), none⟩, ⟨(some 14), .call 166 [(.t 12), (.t 13)], none⟩, ⟨(some 5), .move (.t 14), none⟩])
  (.seq (.draw [(⟨(some 16), .move (.t 0), none⟩, 1), (⟨(some 17), .nilCheck (.t 16), none⟩, 1), (⟨(some 18), .faddr 9 (.t 17), none⟩, 1), (⟨(some 19), .load (.t 18), none⟩, 1), (⟨(some 20), .move (.t 5), none⟩, 0), (⟨(some 21), .call 154 [(.t 20)], none⟩, 1), (⟨(some 22), .lookup (.one .str) (.int .i64 (.ofNat 0)) true (.t 19) (.t 21), none⟩, 1), (⟨(some 15), .move (.t 22), none⟩, 1), (⟨(some 23), .extract 0 (.t 15), none⟩, 1), (⟨(some 24), .extract 1 (.t 15), none⟩, 1), (⟨(some 6), .move (.t 23), none⟩, 1), (⟨(some 7), .move (.t 24), none⟩, 1)])
  (.seq (.reg [⟨(some 25), .move (.t 7), none⟩, ⟨(some 26), .move (.t 25), none⟩, ⟨(some 27), .move (.t 0), (some (26, true))⟩, ⟨(some 28), .nilCheck (.t 27), (some (26, true))⟩, ⟨(some 29), .faddr 10 (.t 28), (some (26, true))⟩, ⟨(some 30), .load (.t 29), (some (26, true))⟩, ⟨(some 31), .move (.t 6), (some (26, true))⟩, ⟨(some 32), .iaddr 1 (.t 30) (.t 31), (some (26, true))⟩, ⟨(some 33), .load (.t 32), (some (26, true))⟩, ⟨(some 34), .move (.t 1), (some (26, true))⟩, ⟨(some 35), .bin .eql (.t 33) (.t 34), (some (26, true))⟩, ⟨(some 36), .pick (.t 26) (.t 35) (.c (.bool false)), none⟩, ⟨(some 4), .move (.t 36), none⟩])
  .ret))))⟩
theorem c161_ok : cFunc Go.Proofs.Try.prog Go.Proofs.Try.f161 = some c161 := by kernel_rfl
/-- semigroup/enumerate.sameLists -/
def c162 : CFunc := ⟨27, [.tmp 4], (.seq (.reg [⟨(some 4), .move (.c (.bool false)), none⟩])
  (.seq (.seq (.reg [⟨(some 6), .move (.t 0), none⟩, ⟨(some 7), .lenSl (.t 6), none⟩, ⟨(some 8), .move (.t 1), none⟩, ⟨(some 9), .lenSl (.t 8), none⟩, ⟨(some 10), .bin .neq (.t 7) (.t 9), none⟩])
  (.cond (.t 10) (.seq (.reg [⟨(some 4), .move (.c (.bool false)), none⟩])
  .ret) .skip))
  (.seq (.seq (.reg [⟨(some 11), .move (.t 0), none⟩, ⟨(some 12), .lenSl (.t 11), none⟩, ⟨(some 13), .move (.c (.int .i64 (.ofNat 0))), none⟩])
  (.block 0 (.loop (.seq (.reg [⟨(some 14), .bin .lss (.t 13) (.t 12), none⟩])
  (.seq (.cond (.t 14) .skip (.exit 0))
  (.seq (.block 1 (.seq (.reg [⟨(some 15), .move (.t 13), none⟩, ⟨(some 5), .move (.t 15), none⟩])
  (.seq (.draw [(⟨(some 16), .move (.t 0), none⟩, 0), (⟨(some 17), .move (.t 5), none⟩, 0), (⟨(some 18), .iaddr 1 (.t 16) (.t 17), none⟩, 0), (⟨(some 19), .load (.t 18), none⟩, 0), (⟨(some 20), .move (.t 1), none⟩, 0), (⟨(some 21), .move (.t 5), none⟩, 0), (⟨(some 22), .iaddr 1 (.t 20) (.t 21), none⟩, 0), (⟨(some 23), .load (.t 22), none⟩, 0), (⟨(some 24), .call 163 [(.t 19), (.t 23)], none⟩, 1), (⟨(some 25), .not (.t 24), none⟩, 1)])
  (.cond (.t 25) (.seq (.reg [⟨(some 4), .move (.c (.bool false)), none⟩])
  .ret) .skip))))
  (.reg [⟨(some 26), .bin .add (.t 13) (.c (.int .i64 (.ofNat 1))), none⟩, ⟨(some 13), .move (.t 26), none⟩])))))))
  (.seq (.reg [⟨(some 4), .move (.c (.bool true)), none⟩])
  .ret))))⟩
theorem c162_ok : cFunc Go.Proofs.Try.prog Go.Proofs.Try.f162 = some c162 := by kernel_rfl
/-- semigroup/enumerate.sameInts -/
def c163 : CFunc := ⟨26, [.tmp 4], (.seq (.reg [⟨(some 4), .move (.c (.bool false)), none⟩])
  (.seq (.seq (.reg [⟨(some 6), .move (.t 0), none⟩, ⟨(some 7), .lenSl (.t 6), none⟩, ⟨(some 8), .move (.t 1), none⟩, ⟨(some 9), .lenSl (.t 8), none⟩, ⟨(some 10), .bin .neq (.t 7) (.t 9), none⟩])
  (.cond (.t 10) (.seq (.reg [⟨(some 4), .move (.c (.bool false)), none⟩])
  .ret) .skip))
  (.seq (.seq (.reg [⟨(some 11), .move (.t 0), none⟩, ⟨(some 12), .lenSl (.t 11), none⟩, ⟨(some 13), .move (.c (.int .i64 (.ofNat 0))), none⟩])
  (.block 0 (.loop (.seq (.reg [⟨(some 14), .bin .lss (.t 13) (.t 12), none⟩])
  (.seq (.cond (.t 14) .skip (.exit 0))
  (.seq (.block 1 (.seq (.reg [⟨(some 15), .move (.t 13), none⟩, ⟨(some 5), .move (.t 15), none⟩])
  (.seq (.draw [(⟨(some 16), .move (.t 0), none⟩, 0), (⟨(some 17), .move (.t 5), none⟩, 0), (⟨(some 18), .iaddr 1 (.t 16) (.t 17), none⟩, 0), (⟨(some 19), .load (.t 18), none⟩, 0), (⟨(some 20), .move (.t 1), none⟩, 0), (⟨(some 21), .move (.t 5), none⟩, 0), (⟨(some 22), .iaddr 1 (.t 20) (.t 21), none⟩, 0), (⟨(some 23), .load (.t 22), none⟩, 0), (⟨(some 24), .bin .neq (.t 19) (.t 23), none⟩, 0)])
  (.cond (.t 24) (.seq (.reg [⟨(some 4), .move (.c (.bool false)), none⟩])
  .ret) .skip))))
  (.reg [⟨(some 25), .bin .add (.t 13) (.c (.int .i64 (.ofNat 1))), none⟩, ⟨(some 13), .move (.t 25), none⟩])))))))
  (.seq (.reg [⟨(some 4), .move (.c (.bool true)), none⟩])
  .ret))))⟩
theorem c163_ok : cFunc Go.Proofs.Try.prog Go.Proofs.Try.f163 = some c163 := by kernel_rfl
/-- semigroup/trans.compose -/
def c164 : CFunc := ⟨27, [.tmp 4], (.seq (.reg [⟨(some 4), .move (.c (.slice none 0 0)), none⟩])
  (.seq (.reg [⟨(some 8), .move (.t 0), none⟩, ⟨(some 9), .lenSl (.t 8), none⟩, ⟨(some 10), .mkSlice 3 8 1 [(.int .i64 (.ofNat 0))] (.t 9) (.t 9), none⟩, ⟨(some 5), .move (.t 10), none⟩])
  (.seq (.seq (.reg [⟨(some 11), .move (.t 0), none⟩, ⟨(some 12), .lenSl (.t 11), none⟩, ⟨(some 13), .move (.c (.int .i64 (.ofNat 0))), none⟩])
  (.block 0 (.loop (.seq (.reg [⟨(some 14), .bin .lss (.t 13) (.t 12), none⟩])
  (.seq (.cond (.t 14) .skip (.exit 0))
  (.seq (.block 1 (.seq (.reg [⟨(some 15), .move (.t 13), none⟩, ⟨(some 16), .iaddr 1 (.t 11) (.t 13), none⟩, ⟨(some 17), .load (.t 16), none⟩, ⟨(some 6), .move (.t 15), none⟩, ⟨(some 7), .move (.t 17), none⟩])
  (.reg [⟨(some 18), .move (.t 5), none⟩, ⟨(some 19), .move (.t 6), none⟩, ⟨(some 20), .move (.t 1), none⟩, ⟨(some 21), .move (.t 7), none⟩, ⟨(some 22), .iaddr 1 (.t 20) (.t 21), none⟩, ⟨(some 23), .load (.t 22), none⟩, ⟨(some 24), .iaddr 1 (.t 18) (.t 19), none⟩, ⟨none, .store 1 (.t 24) (.t 23), none⟩])))
  (.reg [⟨(some 25), .bin .add (.t 13) (.c (.int .i64 (.ofNat 1))), none⟩, ⟨(some 13), .move (.t 25), none⟩])))))))
  (.seq (.reg [⟨(some 26), .move (.t 5), none⟩, ⟨(some 4), .move (.t 26), none⟩])
  .ret))))⟩
theorem c164_ok : cFunc Go.Proofs.Try.prog Go.Proofs.Try.f164 = some c164 := by kernel_rfl
/-- semigroup/partition.Discrete -/
def c165 : CFunc := ⟨24, [.tmp 2], (.seq (.reg [⟨(some 2), .move (.c (.slice none 0 0)), none⟩])
  (.seq (.seq (.reg [⟨(some 5), .move (.t 0), none⟩, ⟨(some 6), .bin .lss (.t 5) (.c (.int .i64 (.ofNat 0))), none⟩, ⟨(some 7), .move (.t 6), none⟩, ⟨(some 8), .move (.t 0), (some (7, false))⟩, ⟨(some 9), .bin .gtr (.t 8) (.c (.int .i64 (.ofNat 4096))), (some (7, false))⟩, ⟨(some 10), .pick (.t 7) (.c (.bool true)) (.t 9), none⟩])
  (.cond (.t 10) (.seq (.reg [⟨(some 2), .move (.c (.slice none 0 0)), none⟩])
  .ret) .skip))
  (.seq (.reg [⟨(some 11), .move (.t 0), none⟩, ⟨(some 12), .mkSlice 3 8 1 [(.int .i64 (.ofNat 0))] (.t 11) (.t 11), none⟩, ⟨(some 3), .move (.t 12), none⟩])
  (.seq (.seq (.reg [⟨(some 13), .move (.t 3), none⟩, ⟨(some 14), .lenSl (.t 13), none⟩, ⟨(some 15), .move (.c (.int .i64 (.ofNat 0))), none⟩])
  (.block 0 (.loop (.seq (.reg [⟨(some 16), .bin .lss (.t 15) (.t 14), none⟩])
  (.seq (.cond (.t 16) .skip (.exit 0))
  (.seq (.block 1 (.seq (.reg [⟨(some 17), .move (.t 15), none⟩, ⟨(some 4), .move (.t 17), none⟩])
  (.reg [⟨(some 18), .move (.t 3), none⟩, ⟨(some 19), .move (.t 4), none⟩, ⟨(some 20), .move (.t 4), none⟩, ⟨(some 21), .iaddr 1 (.t 18) (.t 19), none⟩, ⟨none, .store 1 (.t 21) (.t 20), none⟩])))
  (.reg [⟨(some 22), .bin .add (.t 15) (.c (.int .i64 (.ofNat 1))), none⟩, ⟨(some 15), .move (.t 22), none⟩])))))))
  (.seq (.reg [⟨(some 23), .move (.t 3), none⟩, ⟨(some 2), .move (.t 23), none⟩])
  .ret)))))⟩
theorem c165_ok : cFunc Go.Proofs.Try.prog Go.Proofs.Try.f165 = some c165 := by kernel_rfl
/-- semigroup/trans.OfWord -/
def c166 : CFunc := ⟨62, [.tmp 4], (.seq (.reg [⟨(some 4), .move (.c (.slice none 0 0)), none⟩])
  (.seq (.seq (.reg [⟨(some 10), .move (.t 0), none⟩, ⟨(some 11), .lenSl (.t 10), none⟩, ⟨(some 12), .bin .lss (.t 11) (.c (.int .i64 (.ofNat 1))), none⟩, ⟨(some 13), .move (.t 12), none⟩, ⟨(some 14), .move (.t 0), (some (13, false))⟩, ⟨(some 15), .lenSl (.t 14), (some (13, false))⟩, ⟨(some 16), .bin .gtr (.t 15) (.c (.int .i64 (.ofNat 6))), (some (13, false))⟩, ⟨(some 17), .pick (.t 13) (.c (.bool true)) (.t 16), none⟩, ⟨(some 18), .move (.t 17), none⟩, ⟨(some 19), .move (.t 1), (some (18, false))⟩, ⟨(some 20), .move (.t 0), (some (18, false))⟩, ⟨(some 21), .lenSl (.t 20), (some (18, false))⟩, ⟨(some 22), .call 44 [(.t 19), (.t 21)], (some (18, false))⟩, ⟨(some 23), .not (.t 22), (some (18, false))⟩, ⟨(some 24), .pick (.t 18) (.c (.bool true)) (.t 23), none⟩])
  (.cond (.t 24) (.seq (.reg [⟨(some 4), .move (.c (.slice none 0 0)), none⟩])
  .ret) .skip))
  (.seq (.seq (.reg [⟨(some 25), .move (.t 0), none⟩, ⟨(some 26), .lenSl (.t 25), none⟩, ⟨(some 27), .move (.c (.int .i64 (.ofNat 0))), none⟩])
  (.block 0 (.loop (.seq (.reg [⟨(some 28), .bin .lss (.t 27) (.t 26), none⟩])
  (.seq (.cond (.t 28) .skip (.exit 0))
  (.seq (.block 1 (.seq (.reg [⟨(some 29), .iaddr 1 (.t 25) (.t 27), none⟩, ⟨(some 30), .load (.t 29), none⟩, ⟨(some 6), .move (.t 30), none⟩])
  (.seq (.reg [⟨(some 31), .move (.t 6), none⟩, ⟨(some 32), .call 156 [(.t 31)], none⟩, ⟨(some 33), .not (.t 32), none⟩, ⟨(some 34), .move (.t 33), none⟩, ⟨(some 35), .move (.t 6), (some (34, false))⟩, ⟨(some 36), .lenSl (.t 35), (some (34, false))⟩, ⟨(some 37), .move (.t 0), (some (34, false))⟩, ⟨(some 38), .iaddr 1 (.t 37) (.c (.int .i64 (.ofNat 0))), (some (34, false))⟩, ⟨(some 39), .load (.t 38), (some (34, false))⟩, ⟨(some 40), .lenSl (.t 39), (some (34, false))⟩, ⟨(some 41), .bin .neq (.t 36) (.t 40), (some (34, false))⟩, ⟨(some 42), .pick (.t 34) (.c (.bool true)) (.t 41), none⟩])
  (.cond (.t 42) (.seq (.reg [⟨(some 4), .move (.c (.slice none 0 0)), none⟩])
  .ret) .skip))))
  (.reg [⟨(some 43), .bin .add (.t 27) (.c (.int .i64 (.ofNat 1))), none⟩, ⟨(some 27), .move (.t 43), none⟩])))))))
  (.seq (.reg [⟨(some 44), .move (.t 0), none⟩, ⟨(some 45), .iaddr 1 (.t 44) (.c (.int .i64 (.ofNat 0))), none⟩, ⟨(some 46), .load (.t 45), none⟩, ⟨(some 47), .lenSl (.t 46), none⟩, ⟨(some 48), .call 158 [(.t 47)], none⟩, ⟨(some 7), .move (.t 48), none⟩])
  (.seq (.seq (.reg [⟨(some 49), .move (.t 1), none⟩, ⟨(some 50), .range (.t 49), none⟩])
  (.block 2 (.loop (.seq (.reg [⟨(some 51), .next (.t 50), none⟩, ⟨(some 52), .extract 0 (.t 51), none⟩])
  (.seq (.cond (.t 52) .skip (.exit 2))
  (.block 3 (.seq (.reg [⟨(some 53), .extract 2 (.t 51), none⟩, ⟨(some 9), .move (.t 53), none⟩])
  (.reg [⟨(some 54), .move (.t 7), none⟩, ⟨(some 55), .move (.t 0), none⟩, ⟨(some 56), .move (.t 9), none⟩, ⟨(some 57), .bin .sub (.t 56) (.c (.int .i32 (.ofNat 97))), none⟩, ⟨(some 58), .iaddr 1 (.t 55) (.t 57), none⟩, ⟨(some 59), .load (.t 58), none⟩, ⟨(some 60), .call 164 [(.t 54), (.t 59)], none⟩, ⟨(some 7), .move (.t 60), none⟩]))))))))
  (.seq (.reg [⟨(some 61), .move (.t 7), none⟩, ⟨(some 4), .move (.t 61), none⟩])
  .ret))))))⟩
theorem c166_ok : cFunc Go.Proofs.Try.prog Go.Proofs.Try.f166 = some c166 := by kernel_rfl
def cprog : Nat → Option CFunc
  | 22 => some c22
  | 23 => some c23
  | 26 => some c26
  | 44 => some c44
  | 49 => some c49
  | 60 => some c60
  | 61 => some c61
  | 62 => some c62
  | 63 => some c63
  | 67 => some c67
  | 75 => some c75
  | 78 => some c78
  | 79 => some c79
  | 91 => some c91
  | 92 => some c92
  | 93 => some c93
  | 94 => some c94
  | 95 => some c95
  | 96 => some c96
  | 97 => some c97
  | 102 => some c102
  | 110 => some c110
  | 111 => some c111
  | 112 => some c112
  | 113 => some c113
  | 114 => some c114
  | 115 => some c115
  | 116 => some c116
  | 117 => some c117
  | 118 => some c118
  | 119 => some c119
  | 121 => some c121
  | 122 => some c122
  | 123 => some c123
  | 126 => some c126
  | 127 => some c127
  | 128 => some c128
  | 129 => some c129
  | 130 => some c130
  | 131 => some c131
  | 132 => some c132
  | 133 => some c133
  | 134 => some c134
  | 135 => some c135
  | 136 => some c136
  | 137 => some c137
  | 138 => some c138
  | 139 => some c139
  | 140 => some c140
  | 141 => some c141
  | 142 => some c142
  | 143 => some c143
  | 144 => some c144
  | 145 => some c145
  | 146 => some c146
  | 147 => some c147
  | 148 => some c148
  | 149 => some c149
  | 150 => some c150
  | 151 => some c151
  | 152 => some c152
  | 153 => some c153
  | 154 => some c154
  | 155 => some c155
  | 156 => some c156
  | 157 => some c157
  | 158 => some c158
  | 159 => some c159
  | 160 => some c160
  | 161 => some c161
  | 162 => some c162
  | 163 => some c163
  | 164 => some c164
  | 165 => some c165
  | 166 => some c166
  | _ => none
theorem cprog_ok : ProgOk Go.Proofs.Try.prog cprog := by
  intro f cf h
  unfold cprog at h
  split at h
  · cases h; exact .inl ⟨_, Go.Proofs.Try.func22, c22_ok, by decide +kernel⟩
  · cases h; exact .inl ⟨_, Go.Proofs.Try.func23, c23_ok, by decide +kernel⟩
  · cases h; exact .inl ⟨_, Go.Proofs.Try.func26, c26_ok, by decide +kernel⟩
  · cases h; exact .inl ⟨_, Go.Proofs.Try.func44, c44_ok, by decide +kernel⟩
  · cases h; exact .inl ⟨_, Go.Proofs.Try.func49, c49_ok, by decide +kernel⟩
  · cases h; exact .inl ⟨_, Go.Proofs.Try.func60, c60_ok, by decide +kernel⟩
  · cases h; exact .inl ⟨_, Go.Proofs.Try.func61, c61_ok, by decide +kernel⟩
  · cases h; exact .inl ⟨_, Go.Proofs.Try.func62, c62_ok, by decide +kernel⟩
  · cases h; exact .inl ⟨_, Go.Proofs.Try.func63, c63_ok, by decide +kernel⟩
  · cases h; exact .inl ⟨_, Go.Proofs.Try.func67, c67_ok, by decide +kernel⟩
  · cases h; exact .inl ⟨_, Go.Proofs.Try.func75, c75_ok, by decide +kernel⟩
  · cases h; exact .inl ⟨_, Go.Proofs.Try.func78, c78_ok, by decide +kernel⟩
  · cases h; exact .inl ⟨_, Go.Proofs.Try.func79, c79_ok, by decide +kernel⟩
  · cases h; exact .inl ⟨_, Go.Proofs.Try.func91, c91_ok, by decide +kernel⟩
  · cases h; exact .inl ⟨_, Go.Proofs.Try.func92, c92_ok, by decide +kernel⟩
  · cases h; exact .inl ⟨_, Go.Proofs.Try.func93, c93_ok, by decide +kernel⟩
  · cases h; exact .inl ⟨_, Go.Proofs.Try.func94, c94_ok, by decide +kernel⟩
  · cases h; exact .inl ⟨_, Go.Proofs.Try.func95, c95_ok, by decide +kernel⟩
  · cases h; exact .inl ⟨_, Go.Proofs.Try.func96, c96_ok, by decide +kernel⟩
  · cases h; exact .inl ⟨_, Go.Proofs.Try.func97, c97_ok, by decide +kernel⟩
  · cases h; exact .inl ⟨_, Go.Proofs.Try.func102, c102_ok, by decide +kernel⟩
  · cases h; exact .inl ⟨_, Go.Proofs.Try.func110, c110_ok, by decide +kernel⟩
  · cases h; exact .inl ⟨_, Go.Proofs.Try.func111, c111_ok, by decide +kernel⟩
  · cases h; exact .inl ⟨_, Go.Proofs.Try.func112, c112_ok, by decide +kernel⟩
  · cases h; exact .inl ⟨_, Go.Proofs.Try.func113, c113_ok, by decide +kernel⟩
  · cases h; exact .inl ⟨_, Go.Proofs.Try.func114, c114_ok, by decide +kernel⟩
  · cases h; exact .inl ⟨_, Go.Proofs.Try.func115, c115_ok, by decide +kernel⟩
  · cases h; exact .inl ⟨_, Go.Proofs.Try.func116, c116_ok, by decide +kernel⟩
  · cases h; exact .inl ⟨_, Go.Proofs.Try.func117, c117_ok, by decide +kernel⟩
  · cases h; exact .inl ⟨_, Go.Proofs.Try.func118, c118_ok, by decide +kernel⟩
  · cases h; exact .inl ⟨_, Go.Proofs.Try.func119, c119_ok, by decide +kernel⟩
  · cases h; exact .inl ⟨_, Go.Proofs.Try.func121, c121_ok, by decide +kernel⟩
  · cases h; exact .inl ⟨_, Go.Proofs.Try.func122, c122_ok, by decide +kernel⟩
  · cases h; exact .inl ⟨_, Go.Proofs.Try.func123, c123_ok, by decide +kernel⟩
  · cases h; exact .inl ⟨_, Go.Proofs.Try.func126, c126_ok, by decide +kernel⟩
  · cases h; exact .inl ⟨_, Go.Proofs.Try.func127, c127_ok, by decide +kernel⟩
  · cases h; exact .inl ⟨_, Go.Proofs.Try.func128, c128_ok, by decide +kernel⟩
  · cases h; exact .inl ⟨_, Go.Proofs.Try.func129, c129_ok, by decide +kernel⟩
  · cases h; exact .inl ⟨_, Go.Proofs.Try.func130, c130_ok, by decide +kernel⟩
  · cases h; exact .inl ⟨_, Go.Proofs.Try.func131, c131_ok, by decide +kernel⟩
  · cases h; exact .inl ⟨_, Go.Proofs.Try.func132, c132_ok, by decide +kernel⟩
  · cases h; exact .inl ⟨_, Go.Proofs.Try.func133, c133_ok, by decide +kernel⟩
  · cases h; exact .inl ⟨_, Go.Proofs.Try.func134, c134_ok, by decide +kernel⟩
  · cases h; exact .inl ⟨_, Go.Proofs.Try.func135, c135_ok, by decide +kernel⟩
  · cases h; exact .inl ⟨_, Go.Proofs.Try.func136, c136_ok, by decide +kernel⟩
  · cases h; exact .inl ⟨_, Go.Proofs.Try.func137, c137_ok, by decide +kernel⟩
  · cases h; exact .inl ⟨_, Go.Proofs.Try.func138, c138_ok, by decide +kernel⟩
  · cases h; exact .inl ⟨_, Go.Proofs.Try.func139, c139_ok, by decide +kernel⟩
  · cases h; exact .inl ⟨_, Go.Proofs.Try.func140, c140_ok, by decide +kernel⟩
  · cases h; exact .inl ⟨_, Go.Proofs.Try.func141, c141_ok, by decide +kernel⟩
  · cases h; exact .inl ⟨_, Go.Proofs.Try.func142, c142_ok, by decide +kernel⟩
  · cases h; exact .inl ⟨_, Go.Proofs.Try.func143, c143_ok, by decide +kernel⟩
  · cases h; exact .inl ⟨_, Go.Proofs.Try.func144, c144_ok, by decide +kernel⟩
  · cases h; exact .inl ⟨_, Go.Proofs.Try.func145, c145_ok, by decide +kernel⟩
  · cases h; exact .inl ⟨_, Go.Proofs.Try.func146, c146_ok, by decide +kernel⟩
  · cases h; exact .inl ⟨_, Go.Proofs.Try.func147, c147_ok, by decide +kernel⟩
  · cases h; exact .inl ⟨_, Go.Proofs.Try.func148, c148_ok, by decide +kernel⟩
  · cases h; exact .inl ⟨_, Go.Proofs.Try.func149, c149_ok, by decide +kernel⟩
  · cases h; exact .inl ⟨_, Go.Proofs.Try.func150, c150_ok, by decide +kernel⟩
  · cases h; exact .inl ⟨_, Go.Proofs.Try.func151, c151_ok, by decide +kernel⟩
  · cases h; exact .inl ⟨_, Go.Proofs.Try.func152, c152_ok, by decide +kernel⟩
  · cases h; exact .inl ⟨_, Go.Proofs.Try.func153, c153_ok, by decide +kernel⟩
  · cases h; exact .inl ⟨_, Go.Proofs.Try.func154, c154_ok, by decide +kernel⟩
  · cases h; exact .inl ⟨_, Go.Proofs.Try.func155, c155_ok, by decide +kernel⟩
  · cases h; exact .inl ⟨_, Go.Proofs.Try.func156, c156_ok, by decide +kernel⟩
  · cases h; exact .inl ⟨_, Go.Proofs.Try.func157, c157_ok, by decide +kernel⟩
  · cases h; exact .inl ⟨_, Go.Proofs.Try.func158, c158_ok, by decide +kernel⟩
  · cases h; exact .inl ⟨_, Go.Proofs.Try.func159, c159_ok, by decide +kernel⟩
  · cases h; exact .inl ⟨_, Go.Proofs.Try.func160, c160_ok, by decide +kernel⟩
  · cases h; exact .inl ⟨_, Go.Proofs.Try.func161, c161_ok, by decide +kernel⟩
  · cases h; exact .inl ⟨_, Go.Proofs.Try.func162, c162_ok, by decide +kernel⟩
  · cases h; exact .inl ⟨_, Go.Proofs.Try.func163, c163_ok, by decide +kernel⟩
  · cases h; exact .inl ⟨_, Go.Proofs.Try.func164, c164_ok, by decide +kernel⟩
  · cases h; exact .inl ⟨_, Go.Proofs.Try.func165, c165_ok, by decide +kernel⟩
  · cases h; exact .inl ⟨_, Go.Proofs.Try.func166, c166_ok, by decide +kernel⟩
  · cases h
theorem ev : saysQ cprog 1000000 23 = true := by kernel_rfl
theorem mixed : Go.Proofs.Try.prog.follows .mixedOrders = true := by kernel_rfl
theorem known (w : World) : Calls Go.Proofs.Try.prog 23 #[] w fun e w' => e = .returned (.bool true) ∧ Go.RowKit.Below w.heap.size w w' := saysQ_true mixed cprog_ok ev w
end Go.Ev.K37
end
