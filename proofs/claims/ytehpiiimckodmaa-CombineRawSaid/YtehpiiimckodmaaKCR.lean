/- The functions that the law CombineRaw reaches, as the evaluator reads them. -/
import Derived.Test.YtehpiiimckodmaaProg
import Derived.KernelRfl
import Derived.Test.YtehpiiimckodmaaEv3
set_option linter.unusedVariables false
set_option linter.unusedSimpArgs false
section
namespace Go.EvK
open Go Go.Ev
abbrev n_law34_CombineRaw : Nat := 4
def c_law34_CombineRaw : CFunc := ⟨55, [.tmp 6], (.seq (.reg [⟨(some 3), .box 45 (.t 0), none⟩, ⟨(some 6), .move (.c (.bool false)), none⟩])
  (.seq (.seq (.reg [⟨(some 9), .faddr 0 (.t 3), none⟩, ⟨(some 10), .load (.t 9), none⟩, ⟨(some 11), .lenSl (.t 10), none⟩, ⟨(some 12), .bin .gtr (.t 11) (.c (.int .i64 (.ofNat 20))), none⟩, ⟨(some 13), .move (.t 12), none⟩, ⟨(some 14), .faddr 1 (.t 3), (some (13, false))⟩, ⟨(some 15), .load (.t 14), (some (13, false))⟩, ⟨(some 16), .lenSl (.t 15), (some (13, false))⟩, ⟨(some 17), .bin .gtr (.t 16) (.c (.int .i64 (.ofNat 40))), (some (13, false))⟩, ⟨(some 18), .pick (.t 13) (.c (.bool true)) (.t 17), none⟩, ⟨(some 19), .move (.t 18), none⟩, ⟨(some 20), .move (.t 2), (some (19, false))⟩, ⟨(some 21), .lenStr (.t 20), (some (19, false))⟩, ⟨(some 22), .bin .gtr (.t 21) (.c (.int .i64 (.ofNat 60))), (some (19, false))⟩, ⟨(some 23), .pick (.t 19) (.c (.bool true)) (.t 22), none⟩])
  (.cond (.t 23) (.seq (.reg [⟨(some 6), .move (.c (.bool true)), none⟩])
  .ret) .skip))
  (.seq (.seq (.reg [⟨(some 24), .faddr 0 (.t 3), none⟩, ⟨(some 25), .load (.t 24), none⟩, ⟨(some 26), .lenSl (.t 25), none⟩, ⟨(some 27), .move (.c (.int .i64 (.ofNat 0))), none⟩])
  (.block 0 (.loop (.seq (.reg [⟨(some 28), .bin .lss (.t 27) (.t 26), none⟩])
  (.seq (.cond (.t 28) .skip (.exit 0))
  (.seq (.block 1 (.seq (.reg [⟨(some 29), .iaddr 1 (.t 25) (.t 27), none⟩, ⟨(some 30), .loadN 1 (.t 29), none⟩, ⟨(some 8), .alloc 48 [(.slice none 0 0)], none⟩, ⟨none, .store 1 (.t 8) (.t 30), none⟩])
  (.seq (.reg [⟨(some 31), .faddr 0 (.t 8), none⟩, ⟨(some 32), .load (.t 31), none⟩, ⟨(some 33), .lenSl (.t 32), none⟩, ⟨(some 34), .bin .gtr (.t 33) (.c (.int .i64 (.ofNat 20))), none⟩])
  (.cond (.t 34) (.seq (.reg [⟨(some 6), .move (.c (.bool true)), none⟩])
  .ret) .skip))))
  (.reg [⟨(some 35), .bin .add (.t 27) (.c (.int .i64 (.ofNat 1))), none⟩, ⟨(some 27), .move (.t 35), none⟩])))))))
  (.seq (.draw [(⟨(some 36), .loadN 3 (.t 3), none⟩, 0), (⟨(some 37), .move (.t 1), none⟩, 0), (⟨(some 39), .loadN 3 (.t 3), none⟩, 1), (⟨(some 40), .move (.t 1), none⟩, 1), (⟨(some 38), .call 16 [(.t 36), (.t 37)], none⟩, 1), (⟨(some 41), .call 17 [(.t 39), (.t 40)], none⟩, 2), (⟨(some 42), .bin .eql (.t 38) (.t 41), none⟩, 2), (⟨(some 43), .move (.t 42), none⟩, 2), (⟨(some 44), .loadN 3 (.t 3), (some (43, true))⟩, 2), (⟨(some 45), .move (.t 2), (some (43, true))⟩, 2), (⟨(some 47), .loadN 3 (.t 3), (some (43, true))⟩, 3), (⟨(some 48), .move (.t 2), (some (43, true))⟩, 3), (⟨(some 46), .call 18 [(.t 44), (.t 45)], (some (43, true))⟩, 3), (⟨(some 49), .call 19 [(.t 47), (.t 48)], (some (43, true))⟩, 4), (⟨(some 50), .eqB false (.t 46) (.t 49), (some (43, true))⟩, 4), (⟨(some 51), .pick (.t 43) (.t 50) (.c (.bool false)), none⟩, 4), (⟨(some 52), .move (.t 51), none⟩, 4), (⟨(some 53), .call 20 [], (some (52, true))⟩, 5), (⟨(some 54), .pick (.t 52) (.t 53) (.c (.bool false)), none⟩, 5), (⟨(some 6), .move (.t 54), none⟩, 5)])
  .ret))))⟩
theorem ok_law34_CombineRaw : cFunc Go.Proofs.Try.prog Go.Proofs.Try.f4 = some c_law34_CombineRaw := by kernel_rfl
abbrev n_combine_Validate : Nat := 16
def c_combine_Validate : CFunc := ⟨109, [.tmp 4], (.seq (.reg [⟨(some 2), .box 45 (.t 0), none⟩, ⟨(some 4), .move (.c (.int .i64 (.ofNat 0))), none⟩])
  (.seq (.seq (.reg [⟨(some 12), .move (.t 1), none⟩, ⟨(some 13), .bin .lss (.t 12) (.c (.int .i64 (.ofNat 1))), none⟩, ⟨(some 14), .move (.t 13), none⟩, ⟨(some 15), .move (.t 1), (some (14, false))⟩, ⟨(some 16), .bin .gtr (.t 15) (.c (.int .i64 (.ofNat 6))), (some (14, false))⟩, ⟨(some 17), .pick (.t 14) (.c (.bool true)) (.t 16), none⟩])
  (.cond (.t 17) (.seq (.reg [⟨(some 4), .move (.c (.int .i64 (.ofNat 1))), none⟩])
  .ret) .skip))
  (.seq (.seq (.reg [⟨(some 18), .faddr 0 (.t 2), none⟩, ⟨(some 19), .load (.t 18), none⟩, ⟨(some 20), .lenSl (.t 19), none⟩, ⟨(some 21), .bin .gtr (.t 20) (.c (.int .i64 (.ofNat 300))), none⟩, ⟨(some 22), .move (.t 21), none⟩, ⟨(some 23), .faddr 1 (.t 2), (some (22, false))⟩, ⟨(some 24), .load (.t 23), (some (22, false))⟩, ⟨(some 25), .lenSl (.t 24), (some (22, false))⟩, ⟨(some 26), .bin .gtr (.t 25) (.c (.int .i64 (.ofNat 20000))), (some (22, false))⟩, ⟨(some 27), .pick (.t 22) (.c (.bool true)) (.t 26), none⟩])
  (.cond (.t 27) (.seq (.reg [⟨(some 4), .move (.c (.int .i64 (.ofNat 3))), none⟩])
  .ret) .skip))
  (.seq (.seq (.reg [⟨(some 28), .faddr 0 (.t 2), none⟩, ⟨(some 29), .load (.t 28), none⟩, ⟨(some 30), .lenSl (.t 29), none⟩, ⟨(some 31), .move (.c (.int .i64 (.ofNat 0))), none⟩])
  (.block 0 (.loop (.seq (.reg [⟨(some 32), .bin .lss (.t 31) (.t 30), none⟩])
  (.seq (.cond (.t 32) .skip (.exit 0))
  (.seq (.block 1 (.seq (.reg [⟨(some 33), .iaddr 1 (.t 29) (.t 31), none⟩, ⟨(some 34), .loadN 1 (.t 33), none⟩, ⟨(some 6), .alloc 48 [(.slice none 0 0)], none⟩, ⟨none, .store 1 (.t 6) (.t 34), none⟩])
  (.seq (.reg [⟨(some 35), .loadN 1 (.t 6), none⟩, ⟨(some 36), .move (.t 1), none⟩, ⟨(some 37), .call 48 [(.t 35), (.t 36)], none⟩, ⟨(some 7), .move (.t 37), none⟩])
  (.seq (.reg [⟨(some 38), .move (.t 7), none⟩, ⟨(some 39), .bin .neq (.t 38) (.c (.int .i64 (.ofNat 0))), none⟩])
  (.cond (.t 39) (.seq (.reg [⟨(some 40), .move (.t 7), none⟩, ⟨(some 4), .move (.t 40), none⟩])
  .ret) .skip)))))
  (.reg [⟨(some 41), .bin .add (.t 31) (.c (.int .i64 (.ofNat 1))), none⟩, ⟨(some 31), .move (.t 41), none⟩])))))))
  (.seq (.seq (.reg [⟨(some 42), .faddr 1 (.t 2), none⟩, ⟨(some 43), .load (.t 42), none⟩, ⟨(some 44), .lenSl (.t 43), none⟩, ⟨(some 45), .move (.c (.int .i64 (.ofNat 0))), none⟩])
  (.block 2 (.loop (.seq (.reg [⟨(some 46), .bin .lss (.t 45) (.t 44), none⟩])
  (.seq (.cond (.t 46) .skip (.exit 2))
  (.seq (.block 3 (.seq (.reg [⟨(some 47), .move (.t 45), none⟩, ⟨(some 48), .iaddr 3 (.t 43) (.t 45), none⟩, ⟨(some 49), .loadN 3 (.t 48), none⟩, ⟨(some 9), .alloc 89 [(.int .i64 (.ofNat 0)), (.int .i64 (.ofNat 0)), (.int .i64 (.ofNat 0))], none⟩, ⟨(some 8), .move (.t 47), none⟩, ⟨none, .store 3 (.t 9) (.t 49), none⟩])
  (.seq (.seq (.reg [⟨(some 50), .faddr 0 (.t 9), none⟩, ⟨(some 51), .load (.t 50), none⟩, ⟨(some 52), .bin .lss (.t 51) (.c (.int .i64 (.ofNat 0))), none⟩, ⟨(some 53), .move (.t 52), none⟩, ⟨(some 54), .faddr 0 (.t 9), (some (53, false))⟩, ⟨(some 55), .load (.t 54), (some (53, false))⟩, ⟨(some 56), .faddr 0 (.t 2), (some (53, false))⟩, ⟨(some 57), .load (.t 56), (some (53, false))⟩, ⟨(some 58), .lenSl (.t 57), (some (53, false))⟩, ⟨(some 59), .bin .geq (.t 55) (.t 58), (some (53, false))⟩, ⟨(some 60), .pick (.t 53) (.c (.bool true)) (.t 59), none⟩])
  (.cond (.t 60) (.seq (.reg [⟨(some 4), .move (.c (.int .i64 (.ofNat 22))), none⟩])
  .ret) .skip))
  (.seq (.reg [⟨(some 61), .faddr 1 (.t 9), none⟩, ⟨(some 62), .load (.t 61), none⟩, ⟨(some 63), .faddr 2 (.t 9), none⟩, ⟨(some 64), .load (.t 63), none⟩, ⟨(some 65), .buildSlice 3 1 2 [(.int .i64 (.ofNat 0)), (.int .i64 (.ofNat 0))] [(0, (.t 62)), (1, (.t 64))], none⟩, ⟨(some 66), .lenSl (.t 65), none⟩, ⟨(some 67), .move (.c (.int .i64 (.ofNat 0))), none⟩])
  (.block 4 (.loop (.seq (.reg [⟨(some 68), .bin .lss (.t 67) (.t 66), none⟩])
  (.seq (.cond (.t 68) .skip (.exit 4))
  (.seq (.block 5 (.seq (.reg [⟨(some 69), .iaddr 1 (.t 65) (.t 67), none⟩, ⟨(some 70), .load (.t 69), none⟩, ⟨(some 11), .move (.t 70), none⟩])
  (.seq (.draw [(⟨(some 71), .move (.t 11), none⟩, 0), (⟨(some 72), .bin .lss (.t 71) (.c (.int .i64 (.ofNat 0))), none⟩, 0), (⟨(some 73), .move (.t 72), none⟩, 0), (⟨(some 74), .move (.t 11), (some (73, false))⟩, 0), (⟨(some 75), .move (.t 8), (some (73, false))⟩, 0), (⟨(some 76), .bin .add (.c (.int .i64 (.ofNat 1))) (.t 75), (some (73, false))⟩, 0), (⟨(some 77), .bin .gtr (.t 74) (.t 76), (some (73, false))⟩, 0), (⟨(some 78), .pick (.t 73) (.c (.bool true)) (.t 77), none⟩, 0), (⟨(some 79), .move (.t 78), none⟩, 0), (⟨(some 80), .move (.t 11), (some (79, false))⟩, 0), (⟨(some 81), .bin .gtr (.t 80) (.c (.int .i64 (.ofNat 1))), (some (79, false))⟩, 0), (⟨(some 82), .move (.t 81), (some (79, false))⟩, 0), (⟨(some 83), .faddr 1 (.t 2), (some (82, true))⟩, 0), (⟨(some 84), .load (.t 83), (some (82, true))⟩, 0), (⟨(some 85), .move (.t 11), (some (82, true))⟩, 0), (⟨(some 86), .bin .sub (.t 85) (.c (.int .i64 (.ofNat 2))), (some (82, true))⟩, 0), (⟨(some 87), .iaddr 3 (.t 84) (.t 86), (some (82, true))⟩, 0), (⟨(some 88), .faddr 0 (.t 87), (some (82, true))⟩, 0), (⟨(some 89), .load (.t 88), (some (82, true))⟩, 0), (⟨(some 90), .faddr 0 (.t 9), (some (82, true))⟩, 0), (⟨(some 91), .load (.t 90), (some (82, true))⟩, 0), (⟨(some 92), .bin .leq (.t 89) (.t 91), (some (82, true))⟩, 0), (⟨(some 93), .pick (.t 82) (.t 92) (.c (.bool false)), (some (79, false))⟩, 0), (⟨(some 94), .pick (.t 79) (.c (.bool true)) (.t 93), none⟩, 0)])
  (.cond (.t 94) (.seq (.reg [⟨(some 4), .move (.c (.int .i64 (.ofNat 22))), none⟩])
  .ret) .skip))))
  (.reg [⟨(some 95), .bin .add (.t 67) (.c (.int .i64 (.ofNat 1))), none⟩, ⟨(some 67), .move (.t 95), none⟩]))))))))))
  (.reg [⟨(some 96), .bin .add (.t 45) (.c (.int .i64 (.ofNat 1))), none⟩, ⟨(some 45), .move (.t 96), none⟩])))))))
  (.seq (.seq (.reg [⟨(some 97), .faddr 2 (.t 2), none⟩, ⟨(some 98), .load (.t 97), none⟩, ⟨(some 99), .bin .lss (.t 98) (.c (.int .i64 (.ofNat 0))), none⟩, ⟨(some 100), .move (.t 99), none⟩, ⟨(some 101), .faddr 2 (.t 2), (some (100, false))⟩, ⟨(some 102), .load (.t 101), (some (100, false))⟩, ⟨(some 103), .faddr 1 (.t 2), (some (100, false))⟩, ⟨(some 104), .load (.t 103), (some (100, false))⟩, ⟨(some 105), .lenSl (.t 104), (some (100, false))⟩, ⟨(some 106), .bin .add (.c (.int .i64 (.ofNat 1))) (.t 105), (some (100, false))⟩, ⟨(some 107), .bin .gtr (.t 102) (.t 106), (some (100, false))⟩, ⟨(some 108), .pick (.t 100) (.c (.bool true)) (.t 107), none⟩])
  (.cond (.t 108) (.seq (.reg [⟨(some 4), .move (.c (.int .i64 (.ofNat 22))), none⟩])
  .ret) .skip))
  (.seq (.reg [⟨(some 4), .move (.c (.int .i64 (.ofNat 0))), none⟩])
  .ret)))))))⟩
theorem ok_combine_Validate : cFunc Go.Proofs.Try.prog Go.Proofs.Try.f16 = some c_combine_Validate := by kernel_rfl
abbrev n_ref34_Validate : Nat := 17
def c_ref34_Validate : CFunc := ⟨106, [.tmp 4], (.seq (.reg [⟨(some 2), .box 45 (.t 0), none⟩, ⟨(some 4), .move (.c (.int .i64 (.ofNat 0))), none⟩])
  (.seq (.seq (.reg [⟨(some 12), .move (.t 1), none⟩, ⟨(some 13), .call 49 [(.t 12)], none⟩, ⟨(some 14), .not (.t 13), none⟩])
  (.cond (.t 14) (.seq (.reg [⟨(some 4), .move (.c (.int .i64 (.ofNat 1))), none⟩])
  .ret) .skip))
  (.seq (.seq (.reg [⟨(some 15), .faddr 0 (.t 2), none⟩, ⟨(some 16), .load (.t 15), none⟩, ⟨(some 17), .lenSl (.t 16), none⟩, ⟨(some 18), .bin .gtr (.t 17) (.c (.int .i64 (.ofNat 300))), none⟩, ⟨(some 19), .move (.t 18), none⟩, ⟨(some 20), .faddr 1 (.t 2), (some (19, false))⟩, ⟨(some 21), .load (.t 20), (some (19, false))⟩, ⟨(some 22), .lenSl (.t 21), (some (19, false))⟩, ⟨(some 23), .bin .gtr (.t 22) (.c (.int .i64 (.ofNat 20000))), (some (19, false))⟩, ⟨(some 24), .pick (.t 19) (.c (.bool true)) (.t 23), none⟩])
  (.cond (.t 24) (.seq (.reg [⟨(some 4), .move (.c (.int .i64 (.ofNat 3))), none⟩])
  .ret) .skip))
  (.seq (.seq (.reg [⟨(some 25), .faddr 0 (.t 2), none⟩, ⟨(some 26), .load (.t 25), none⟩, ⟨(some 27), .lenSl (.t 26), none⟩, ⟨(some 28), .move (.c (.int .i64 (.ofNat 0))), none⟩])
  (.block 0 (.loop (.seq (.reg [⟨(some 29), .bin .lss (.t 28) (.t 27), none⟩])
  (.seq (.cond (.t 29) .skip (.exit 0))
  (.seq (.block 1 (.seq (.reg [⟨(some 30), .iaddr 1 (.t 26) (.t 28), none⟩, ⟨(some 31), .loadN 1 (.t 30), none⟩, ⟨(some 6), .alloc 48 [(.slice none 0 0)], none⟩, ⟨none, .store 1 (.t 6) (.t 31), none⟩])
  (.seq (.reg [⟨(some 32), .loadN 1 (.t 6), none⟩, ⟨(some 33), .move (.t 1), none⟩, ⟨(some 34), .call 50 [(.t 32), (.t 33)], none⟩, ⟨(some 7), .move (.t 34), none⟩])
  (.seq (.reg [⟨(some 35), .move (.t 7), none⟩, ⟨(some 36), .bin .neq (.t 35) (.c (.int .i64 (.ofNat 0))), none⟩])
  (.cond (.t 36) (.seq (.reg [⟨(some 37), .move (.t 7), none⟩, ⟨(some 4), .move (.t 37), none⟩])
  .ret) .skip)))))
  (.reg [⟨(some 38), .bin .add (.t 28) (.c (.int .i64 (.ofNat 1))), none⟩, ⟨(some 28), .move (.t 38), none⟩])))))))
  (.seq (.seq (.reg [⟨(some 39), .faddr 1 (.t 2), none⟩, ⟨(some 40), .load (.t 39), none⟩, ⟨(some 41), .lenSl (.t 40), none⟩, ⟨(some 42), .move (.c (.int .i64 (.ofNat 0))), none⟩])
  (.block 2 (.loop (.seq (.reg [⟨(some 43), .bin .lss (.t 42) (.t 41), none⟩])
  (.seq (.cond (.t 43) .skip (.exit 2))
  (.seq (.block 3 (.seq (.reg [⟨(some 44), .move (.t 42), none⟩, ⟨(some 45), .iaddr 3 (.t 40) (.t 42), none⟩, ⟨(some 46), .loadN 3 (.t 45), none⟩, ⟨(some 9), .alloc 89 [(.int .i64 (.ofNat 0)), (.int .i64 (.ofNat 0)), (.int .i64 (.ofNat 0))], none⟩, ⟨(some 8), .move (.t 44), none⟩, ⟨none, .store 3 (.t 9) (.t 46), none⟩])
  (.seq (.seq (.reg [⟨(some 47), .faddr 0 (.t 9), none⟩, ⟨(some 48), .load (.t 47), none⟩, ⟨(some 49), .bin .lss (.t 48) (.c (.int .i64 (.ofNat 0))), none⟩, ⟨(some 50), .move (.t 49), none⟩, ⟨(some 51), .faddr 0 (.t 9), (some (50, false))⟩, ⟨(some 52), .load (.t 51), (some (50, false))⟩, ⟨(some 53), .faddr 0 (.t 2), (some (50, false))⟩, ⟨(some 54), .load (.t 53), (some (50, false))⟩, ⟨(some 55), .lenSl (.t 54), (some (50, false))⟩, ⟨(some 56), .bin .geq (.t 52) (.t 55), (some (50, false))⟩, ⟨(some 57), .pick (.t 50) (.c (.bool true)) (.t 56), none⟩])
  (.cond (.t 57) (.seq (.reg [⟨(some 4), .move (.c (.int .i64 (.ofNat 22))), none⟩])
  .ret) .skip))
  (.seq (.reg [⟨(some 58), .faddr 1 (.t 9), none⟩, ⟨(some 59), .load (.t 58), none⟩, ⟨(some 60), .faddr 2 (.t 9), none⟩, ⟨(some 61), .load (.t 60), none⟩, ⟨(some 62), .buildSlice 3 1 2 [(.int .i64 (.ofNat 0)), (.int .i64 (.ofNat 0))] [(0, (.t 59)), (1, (.t 61))], none⟩, ⟨(some 63), .lenSl (.t 62), none⟩, ⟨(some 64), .move (.c (.int .i64 (.ofNat 0))), none⟩])
  (.block 4 (.loop (.seq (.reg [⟨(some 65), .bin .lss (.t 64) (.t 63), none⟩])
  (.seq (.cond (.t 65) .skip (.exit 4))
  (.seq (.block 5 (.seq (.reg [⟨(some 66), .iaddr 1 (.t 62) (.t 64), none⟩, ⟨(some 67), .load (.t 66), none⟩, ⟨(some 11), .move (.t 67), none⟩])
  (.seq (.draw [(⟨(some 68), .move (.t 11), none⟩, 0), (⟨(some 69), .bin .lss (.t 68) (.c (.int .i64 (.ofNat 0))), none⟩, 0), (⟨(some 70), .move (.t 69), none⟩, 0), (⟨(some 71), .move (.t 11), (some (70, false))⟩, 0), (⟨(some 72), .move (.t 8), (some (70, false))⟩, 0), (⟨(some 73), .bin .add (.c (.int .i64 (.ofNat 1))) (.t 72), (some (70, false))⟩, 0), (⟨(some 74), .bin .gtr (.t 71) (.t 73), (some (70, false))⟩, 0), (⟨(some 75), .pick (.t 70) (.c (.bool true)) (.t 74), none⟩, 0), (⟨(some 76), .move (.t 75), none⟩, 0), (⟨(some 77), .move (.t 11), (some (76, false))⟩, 0), (⟨(some 78), .bin .geq (.t 77) (.c (.int .i64 (.ofNat 2))), (some (76, false))⟩, 0), (⟨(some 79), .move (.t 78), (some (76, false))⟩, 0), (⟨(some 80), .faddr 1 (.t 2), (some (79, true))⟩, 0), (⟨(some 81), .load (.t 80), (some (79, true))⟩, 0), (⟨(some 82), .move (.t 11), (some (79, true))⟩, 0), (⟨(some 83), .bin .sub (.t 82) (.c (.int .i64 (.ofNat 2))), (some (79, true))⟩, 0), (⟨(some 84), .iaddr 3 (.t 81) (.t 83), (some (79, true))⟩, 0), (⟨(some 85), .faddr 0 (.t 84), (some (79, true))⟩, 0), (⟨(some 86), .load (.t 85), (some (79, true))⟩, 0), (⟨(some 87), .faddr 0 (.t 9), (some (79, true))⟩, 0), (⟨(some 88), .load (.t 87), (some (79, true))⟩, 0), (⟨(some 89), .bin .leq (.t 86) (.t 88), (some (79, true))⟩, 0), (⟨(some 90), .pick (.t 79) (.t 89) (.c (.bool false)), (some (76, false))⟩, 0), (⟨(some 91), .pick (.t 76) (.c (.bool true)) (.t 90), none⟩, 0)])
  (.cond (.t 91) (.seq (.reg [⟨(some 4), .move (.c (.int .i64 (.ofNat 22))), none⟩])
  .ret) .skip))))
  (.reg [⟨(some 92), .bin .add (.t 64) (.c (.int .i64 (.ofNat 1))), none⟩, ⟨(some 64), .move (.t 92), none⟩]))))))))))
  (.reg [⟨(some 93), .bin .add (.t 42) (.c (.int .i64 (.ofNat 1))), none⟩, ⟨(some 42), .move (.t 93), none⟩])))))))
  (.seq (.seq (.reg [⟨(some 94), .faddr 2 (.t 2), none⟩, ⟨(some 95), .load (.t 94), none⟩, ⟨(some 96), .bin .lss (.t 95) (.c (.int .i64 (.ofNat 0))), none⟩, ⟨(some 97), .move (.t 96), none⟩, ⟨(some 98), .faddr 2 (.t 2), (some (97, false))⟩, ⟨(some 99), .load (.t 98), (some (97, false))⟩, ⟨(some 100), .faddr 1 (.t 2), (some (97, false))⟩, ⟨(some 101), .load (.t 100), (some (97, false))⟩, ⟨(some 102), .lenSl (.t 101), (some (97, false))⟩, ⟨(some 103), .bin .add (.c (.int .i64 (.ofNat 1))) (.t 102), (some (97, false))⟩, ⟨(some 104), .bin .gtr (.t 99) (.t 103), (some (97, false))⟩, ⟨(some 105), .pick (.t 97) (.c (.bool true)) (.t 104), none⟩])
  (.cond (.t 105) (.seq (.reg [⟨(some 4), .move (.c (.int .i64 (.ofNat 22))), none⟩])
  .ret) .skip))
  (.seq (.reg [⟨(some 4), .move (.c (.int .i64 (.ofNat 0))), none⟩])
  .ret)))))))⟩
theorem ok_ref34_Validate : cFunc Go.Proofs.Try.prog Go.Proofs.Try.f17 = some c_ref34_Validate := by kernel_rfl
abbrev n_combine_Holds : Nat := 18
def c_combine_Holds : CFunc := ⟨16, [.tmp 4], (.seq (.reg [⟨(some 2), .box 45 (.t 0), none⟩, ⟨(some 3), .box 9 (.t 1), none⟩, ⟨(some 4), .move (.c (.bool false)), none⟩])
  (.seq (.seq (.reg [⟨(some 5), .loadN 3 (.t 2), none⟩, ⟨(some 6), .call 16 [(.t 5), (.c (.int .i64 (.ofNat 6)))], none⟩, ⟨(some 7), .bin .neq (.t 6) (.c (.int .i64 (.ofNat 0))), none⟩, ⟨(some 8), .move (.t 7), none⟩, ⟨(some 9), .load (.t 3), (some (8, false))⟩, ⟨(some 10), .call 44 [(.t 9), (.c (.int .i64 (.ofNat 6)))], (some (8, false))⟩, ⟨(some 11), .not (.t 10), (some (8, false))⟩, ⟨(some 12), .pick (.t 8) (.c (.bool true)) (.t 11), none⟩])
  (.cond (.t 12) (.seq (.reg [⟨(some 4), .move (.c (.bool false)), none⟩])
  .ret) .skip))
  (.seq (.reg [⟨(some 13), .loadN 3 (.t 2), none⟩, ⟨(some 14), .mkFunc 52 [] [(.t 2), (.t 3)], none⟩, ⟨(some 15), .call 51 [(.t 13), (.t 14)], none⟩, ⟨(some 4), .move (.t 15), none⟩])
  .ret)))⟩
theorem ok_combine_Holds : cFunc Go.Proofs.Try.prog Go.Proofs.Try.f18 = some c_combine_Holds := by kernel_rfl
abbrev n_ref34_Holds : Nat := 19
def c_ref34_Holds : CFunc := ⟨20, [.tmp 4], (.seq (.reg [⟨(some 2), .box 45 (.t 0), none⟩, ⟨(some 4), .move (.c (.bool false)), none⟩])
  (.seq (.draw [(⟨(some 5), .loadN 3 (.t 2), none⟩, 0), (⟨(some 6), .call 17 [(.t 5), (.c (.int .i64 (.ofNat 6)))], none⟩, 1), (⟨(some 7), .bin .eql (.t 6) (.c (.int .i64 (.ofNat 0))), none⟩, 1), (⟨(some 8), .move (.t 7), none⟩, 1), (⟨(some 9), .move (.t 1), (some (8, true))⟩, 1), (⟨(some 10), .call 54 [(.t 9), (.c (.int .i64 (.ofNat 6)))], (some (8, true))⟩, 2), (⟨(some 11), .pick (.t 8) (.t 10) (.c (.bool false)), none⟩, 2), (⟨(some 12), .move (.t 11), none⟩, 2), (⟨(some 13), .loadN 3 (.t 2), (some (12, true))⟩, 3), (⟨(some 14), .faddr 0 (.t 2), (some (12, true))⟩, 2), (⟨(some 15), .load (.t 14), (some (12, true))⟩, 2), (⟨(some 16), .move (.t 1), (some (12, true))⟩, 2), (⟨(some 17), .call 56 [(.t 15), (.t 16)], (some (12, true))⟩, 3), (⟨(some 18), .call 55 [(.t 13), (.t 17)], (some (12, true))⟩, 4), (⟨(some 19), .pick (.t 12) (.t 18) (.c (.bool false)), none⟩, 4), (⟨(some 4), .move (.t 19), none⟩, 4)])
  .ret))⟩
theorem ok_ref34_Holds : cFunc Go.Proofs.Try.prog Go.Proofs.Try.f19 = some c_ref34_Holds := by kernel_rfl
abbrev n_law34_known : Nat := 20
abbrev n_word_Valid : Nat := 44
def c_word_Valid : CFunc := ⟨36, [.tmp 4], (.seq (.reg [⟨(some 4), .move (.c (.bool false)), none⟩])
  (.seq (.seq (.reg [⟨(some 6), .move (.t 1), none⟩, ⟨(some 7), .bin .lss (.t 6) (.c (.int .i64 (.ofNat 1))), none⟩, ⟨(some 8), .move (.t 7), none⟩, ⟨(some 9), .move (.t 1), (some (8, false))⟩, ⟨(some 10), .bin .gtr (.t 9) (.c (.int .i64 (.ofNat 6))), (some (8, false))⟩, ⟨(some 11), .pick (.t 8) (.c (.bool true)) (.t 10), none⟩, ⟨(some 12), .move (.t 11), none⟩, ⟨(some 13), .move (.t 0), (some (12, false))⟩, ⟨(some 14), .lenStr (.t 13), (some (12, false))⟩, ⟨(some 15), .bin .gtr (.t 14) (.c (.int .i64 (.ofNat 2048))), (some (12, false))⟩, ⟨(some 16), .pick (.t 12) (.c (.bool true)) (.t 15), none⟩])
  (.cond (.t 16) (.seq (.reg [⟨(some 4), .move (.c (.bool false)), none⟩])
  .ret) .skip))
  (.seq (.seq (.reg [⟨(some 5), .move (.c (.int .i64 (.ofNat 0))), none⟩])
  (.block 0 (.loop (.seq (.seq (.reg [⟨(some 17), .move (.t 5), none⟩, ⟨(some 18), .move (.t 0), none⟩, ⟨(some 19), .lenStr (.t 18), none⟩, ⟨(some 20), .bin .lss (.t 17) (.t 19), none⟩])
  (.cond (.t 20) .skip (.exit 0)))
  (.seq (.block 1 (.seq (.reg [⟨(some 23), .move (.t 0), none⟩, ⟨(some 24), .move (.t 5), none⟩, ⟨(some 25), .idxStr (.t 23) (.t 24), none⟩, ⟨(some 26), .bin .lss (.t 25) (.c (.int .u8 (.ofNat 97))), none⟩, ⟨(some 27), .move (.t 26), none⟩, ⟨(some 28), .move (.t 0), (some (27, false))⟩, ⟨(some 29), .move (.t 5), (some (27, false))⟩, ⟨(some 30), .idxStr (.t 28) (.t 29), (some (27, false))⟩, ⟨(some 31), .bin .sub (.t 30) (.c (.int .u8 (.ofNat 97))), (some (27, false))⟩, ⟨(some 32), .conv .i64 (.t 31), (some (27, false))⟩, ⟨(some 33), .move (.t 1), (some (27, false))⟩, ⟨(some 34), .bin .geq (.t 32) (.t 33), (some (27, false))⟩, ⟨(some 35), .pick (.t 27) (.c (.bool true)) (.t 34), none⟩])
  (.cond (.t 35) (.seq (.reg [⟨(some 4), .move (.c (.bool false)), none⟩])
  .ret) .skip)))
  (.reg [⟨(some 21), .move (.t 5), none⟩, ⟨(some 22), .bin .add (.t 21) (.c (.int .i64 (.ofNat 1))), none⟩, ⟨(some 5), .move (.t 22), none⟩]))))))
  (.seq (.reg [⟨(some 4), .move (.c (.bool true)), none⟩])
  .ret))))⟩
theorem ok_word_Valid : cFunc Go.Proofs.Try.prog Go.Proofs.Try.f44 = some c_word_Valid := by kernel_rfl
abbrev n_pattern_Validate : Nat := 48
def c_pattern_Validate : CFunc := ⟨70, [.tmp 4], (.seq (.reg [⟨(some 2), .box 48 (.t 0), none⟩, ⟨(some 4), .move (.c (.int .i64 (.ofNat 0))), none⟩])
  (.seq (.seq (.reg [⟨(some 10), .move (.t 1), none⟩, ⟨(some 11), .bin .lss (.t 10) (.c (.int .i64 (.ofNat 1))), none⟩, ⟨(some 12), .move (.t 11), none⟩, ⟨(some 13), .move (.t 1), (some (12, false))⟩, ⟨(some 14), .bin .gtr (.t 13) (.c (.int .i64 (.ofNat 6))), (some (12, false))⟩, ⟨(some 15), .pick (.t 12) (.c (.bool true)) (.t 14), none⟩])
  (.cond (.t 15) (.seq (.reg [⟨(some 4), .move (.c (.int .i64 (.ofNat 1))), none⟩])
  .ret) .skip))
  (.seq (.reg [⟨(some 5), .move (.c (.int .i64 (.ofNat 0))), none⟩])
  (.seq (.seq (.reg [⟨(some 16), .faddr 0 (.t 2), none⟩, ⟨(some 17), .load (.t 16), none⟩, ⟨(some 18), .lenSl (.t 17), none⟩, ⟨(some 19), .move (.c (.int .i64 (.ofNat 0))), none⟩])
  (.block 0 (.loop (.seq (.reg [⟨(some 20), .bin .lss (.t 19) (.t 18), none⟩])
  (.seq (.cond (.t 20) .skip (.exit 0))
  (.seq (.block 1 (.seq (.reg [⟨(some 21), .iaddr 1 (.t 17) (.t 19), none⟩, ⟨(some 22), .load (.t 21), none⟩, ⟨(some 7), .move (.t 22), none⟩])
  (.reg [⟨(some 23), .move (.t 5), none⟩, ⟨(some 24), .move (.t 7), none⟩, ⟨(some 25), .lenStr (.t 24), none⟩, ⟨(some 26), .bin .add (.t 23) (.t 25), none⟩, ⟨(some 27), .most true (.t 26) (.c (.int .i64 (.ofNat 65))), none⟩, ⟨(some 5), .move (.t 27), none⟩])))
  (.reg [⟨(some 28), .bin .add (.t 19) (.c (.int .i64 (.ofNat 1))), none⟩, ⟨(some 19), .move (.t 28), none⟩])))))))
  (.seq (.seq (.reg [⟨(some 29), .faddr 0 (.t 2), none⟩, ⟨(some 30), .load (.t 29), none⟩, ⟨(some 31), .lenSl (.t 30), none⟩, ⟨(some 32), .bin .gtr (.t 31) (.c (.int .i64 (.ofNat 8))), none⟩, ⟨(some 33), .move (.t 32), none⟩, ⟨(some 34), .move (.t 5), (some (33, false))⟩, ⟨(some 35), .bin .gtr (.t 34) (.c (.int .i64 (.ofNat 64))), (some (33, false))⟩, ⟨(some 36), .pick (.t 33) (.c (.bool true)) (.t 35), none⟩])
  (.cond (.t 36) (.seq (.reg [⟨(some 4), .move (.c (.int .i64 (.ofNat 3))), none⟩])
  .ret) .skip))
  (.seq (.seq (.reg [⟨(some 37), .faddr 0 (.t 2), none⟩, ⟨(some 38), .load (.t 37), none⟩, ⟨(some 39), .lenSl (.t 38), none⟩, ⟨(some 40), .bin .eql (.t 39) (.c (.int .i64 (.ofNat 0))), none⟩])
  (.cond (.t 40) (.seq (.reg [⟨(some 4), .move (.c (.int .i64 (.ofNat 22))), none⟩])
  .ret) .skip))
  (.seq (.seq (.reg [⟨(some 41), .faddr 0 (.t 2), none⟩, ⟨(some 42), .load (.t 41), none⟩, ⟨(some 43), .lenSl (.t 42), none⟩, ⟨(some 44), .move (.c (.int .i64 (.ofNat 0))), none⟩])
  (.block 2 (.loop (.seq (.reg [⟨(some 45), .bin .lss (.t 44) (.t 43), none⟩])
  (.seq (.cond (.t 45) .skip (.exit 2))
  (.seq (.block 3 (.seq (.reg [⟨(some 46), .move (.t 44), none⟩, ⟨(some 47), .iaddr 1 (.t 42) (.t 44), none⟩, ⟨(some 48), .load (.t 47), none⟩, ⟨(some 8), .move (.t 46), none⟩, ⟨(some 9), .move (.t 48), none⟩])
  (.seq (.reg [⟨(some 49), .move (.t 9), none⟩, ⟨(some 50), .move (.t 1), none⟩, ⟨(some 51), .call 44 [(.t 49), (.t 50)], none⟩, ⟨(some 52), .not (.t 51), none⟩, ⟨(some 53), .move (.t 52), none⟩, ⟨(some 54), .move (.t 8), (some (53, false))⟩, ⟨(some 55), .bin .gtr (.t 54) (.c (.int .i64 (.ofNat 0))), (some (53, false))⟩, ⟨(some 56), .move (.t 55), (some (53, false))⟩, ⟨(some 57), .move (.t 8), (some (56, true))⟩, ⟨(some 58), .faddr 0 (.t 2), (some (56, true))⟩, ⟨(some 59), .load (.t 58), (some (56, true))⟩, ⟨(some 60), .lenSl (.t 59), (some (56, true))⟩, ⟨(some 61), .bin .sub (.t 60) (.c (.int .i64 (.ofNat 1))), (some (56, true))⟩, ⟨(some 62), .bin .lss (.t 57) (.t 61), (some (56, true))⟩, ⟨(some 63), .pick (.t 56) (.t 62) (.c (.bool false)), (some (53, false))⟩, ⟨(some 64), .move (.t 63), (some (53, false))⟩, ⟨(some 65), .move (.t 9), (some (64, true))⟩, ⟨(some 66), .bin .eql (.t 65) (.c (.string ⟨⟨[]⟩⟩)), (some (64, true))⟩, ⟨(some 67), .pick (.t 64) (.t 66) (.c (.bool false)), (some (53, false))⟩, ⟨(some 68), .pick (.t 53) (.c (.bool true)) (.t 67), none⟩])
  (.cond (.t 68) (.seq (.reg [⟨(some 4), .move (.c (.int .i64 (.ofNat 22))), none⟩])
  .ret) .skip))))
  (.reg [⟨(some 69), .bin .add (.t 44) (.c (.int .i64 (.ofNat 1))), none⟩, ⟨(some 44), .move (.t 69), none⟩])))))))
  (.seq (.reg [⟨(some 4), .move (.c (.int .i64 (.ofNat 0))), none⟩])
  .ret))))))))⟩
theorem ok_pattern_Validate : cFunc Go.Proofs.Try.prog Go.Proofs.Try.f48 = some c_pattern_Validate := by kernel_rfl
abbrev n_ref01_MayLetters : Nat := 49
def c_ref01_MayLetters : CFunc := ⟨9, [.tmp 2], (.seq (.reg [⟨(some 2), .move (.c (.bool false)), none⟩])
  (.seq (.reg [⟨(some 3), .move (.t 0), none⟩, ⟨(some 4), .bin .geq (.t 3) (.c (.int .i64 (.ofNat 1))), none⟩, ⟨(some 5), .move (.t 4), none⟩, ⟨(some 6), .move (.t 0), (some (5, true))⟩, ⟨(some 7), .bin .leq (.t 6) (.c (.int .i64 (.ofNat 6))), (some (5, true))⟩, ⟨(some 8), .pick (.t 5) (.t 7) (.c (.bool false)), none⟩, ⟨(some 2), .move (.t 8), none⟩])
  .ret))⟩
theorem ok_ref01_MayLetters : cFunc Go.Proofs.Try.prog Go.Proofs.Try.f49 = some c_ref01_MayLetters := by kernel_rfl
abbrev n_ref33_Validate : Nat := 50
def c_ref33_Validate : CFunc := ⟨66, [.tmp 4], (.seq (.reg [⟨(some 2), .box 48 (.t 0), none⟩, ⟨(some 4), .move (.c (.int .i64 (.ofNat 0))), none⟩])
  (.seq (.seq (.reg [⟨(some 10), .move (.t 1), none⟩, ⟨(some 11), .call 49 [(.t 10)], none⟩, ⟨(some 12), .not (.t 11), none⟩])
  (.cond (.t 12) (.seq (.reg [⟨(some 4), .move (.c (.int .i64 (.ofNat 1))), none⟩])
  .ret) .skip))
  (.seq (.reg [⟨(some 5), .move (.c (.int .i64 (.ofNat 0))), none⟩])
  (.seq (.seq (.reg [⟨(some 13), .faddr 0 (.t 2), none⟩, ⟨(some 14), .load (.t 13), none⟩, ⟨(some 15), .lenSl (.t 14), none⟩, ⟨(some 16), .move (.c (.int .i64 (.ofNat 0))), none⟩])
  (.block 0 (.loop (.seq (.reg [⟨(some 17), .bin .lss (.t 16) (.t 15), none⟩])
  (.seq (.cond (.t 17) .skip (.exit 0))
  (.seq (.block 1 (.seq (.reg [⟨(some 18), .iaddr 1 (.t 14) (.t 16), none⟩, ⟨(some 19), .load (.t 18), none⟩, ⟨(some 7), .move (.t 19), none⟩])
  (.reg [⟨(some 20), .move (.t 5), none⟩, ⟨(some 21), .move (.t 7), none⟩, ⟨(some 22), .lenStr (.t 21), none⟩, ⟨(some 23), .bin .add (.t 20) (.t 22), none⟩, ⟨(some 5), .move (.t 23), none⟩])))
  (.reg [⟨(some 24), .bin .add (.t 16) (.c (.int .i64 (.ofNat 1))), none⟩, ⟨(some 16), .move (.t 24), none⟩])))))))
  (.seq (.seq (.reg [⟨(some 25), .faddr 0 (.t 2), none⟩, ⟨(some 26), .load (.t 25), none⟩, ⟨(some 27), .lenSl (.t 26), none⟩, ⟨(some 28), .bin .gtr (.t 27) (.c (.int .i64 (.ofNat 8))), none⟩, ⟨(some 29), .move (.t 28), none⟩, ⟨(some 30), .move (.t 5), (some (29, false))⟩, ⟨(some 31), .bin .gtr (.t 30) (.c (.int .i64 (.ofNat 64))), (some (29, false))⟩, ⟨(some 32), .pick (.t 29) (.c (.bool true)) (.t 31), none⟩])
  (.cond (.t 32) (.seq (.reg [⟨(some 4), .move (.c (.int .i64 (.ofNat 3))), none⟩])
  .ret) .skip))
  (.seq (.seq (.reg [⟨(some 33), .faddr 0 (.t 2), none⟩, ⟨(some 34), .load (.t 33), none⟩, ⟨(some 35), .lenSl (.t 34), none⟩, ⟨(some 36), .bin .eql (.t 35) (.c (.int .i64 (.ofNat 0))), none⟩])
  (.cond (.t 36) (.seq (.reg [⟨(some 4), .move (.c (.int .i64 (.ofNat 22))), none⟩])
  .ret) .skip))
  (.seq (.seq (.reg [⟨(some 37), .faddr 0 (.t 2), none⟩, ⟨(some 38), .load (.t 37), none⟩, ⟨(some 39), .lenSl (.t 38), none⟩, ⟨(some 40), .move (.c (.int .i64 (.ofNat 0))), none⟩])
  (.block 2 (.loop (.seq (.reg [⟨(some 41), .bin .lss (.t 40) (.t 39), none⟩])
  (.seq (.cond (.t 41) .skip (.exit 2))
  (.seq (.block 3 (.seq (.reg [⟨(some 42), .move (.t 40), none⟩, ⟨(some 43), .iaddr 1 (.t 38) (.t 40), none⟩, ⟨(some 44), .load (.t 43), none⟩, ⟨(some 8), .move (.t 42), none⟩, ⟨(some 9), .move (.t 44), none⟩])
  (.seq (.reg [⟨(some 45), .move (.t 9), none⟩, ⟨(some 46), .move (.t 1), none⟩, ⟨(some 47), .call 54 [(.t 45), (.t 46)], none⟩, ⟨(some 48), .not (.t 47), none⟩, ⟨(some 49), .move (.t 48), none⟩, ⟨(some 50), .move (.t 9), (some (49, false))⟩, ⟨(some 51), .bin .eql (.t 50) (.c (.string ⟨⟨[]⟩⟩)), (some (49, false))⟩, ⟨(some 52), .move (.t 51), (some (49, false))⟩, ⟨(some 53), .move (.t 8), (some (52, true))⟩, ⟨(some 54), .bin .gtr (.t 53) (.c (.int .i64 (.ofNat 0))), (some (52, true))⟩, ⟨(some 55), .pick (.t 52) (.t 54) (.c (.bool false)), (some (49, false))⟩, ⟨(some 56), .move (.t 55), (some (49, false))⟩, ⟨(some 57), .move (.t 8), (some (56, true))⟩, ⟨(some 58), .faddr 0 (.t 2), (some (56, true))⟩, ⟨(some 59), .load (.t 58), (some (56, true))⟩, ⟨(some 60), .lenSl (.t 59), (some (56, true))⟩, ⟨(some 61), .bin .sub (.t 60) (.c (.int .i64 (.ofNat 1))), (some (56, true))⟩, ⟨(some 62), .bin .lss (.t 57) (.t 61), (some (56, true))⟩, ⟨(some 63), .pick (.t 56) (.t 62) (.c (.bool false)), (some (49, false))⟩, ⟨(some 64), .pick (.t 49) (.c (.bool true)) (.t 63), none⟩])
  (.cond (.t 64) (.seq (.reg [⟨(some 4), .move (.c (.int .i64 (.ofNat 22))), none⟩])
  .ret) .skip))))
  (.reg [⟨(some 65), .bin .add (.t 40) (.c (.int .i64 (.ofNat 1))), none⟩, ⟨(some 40), .move (.t 65), none⟩])))))))
  (.seq (.reg [⟨(some 4), .move (.c (.int .i64 (.ofNat 0))), none⟩])
  .ret))))))))⟩
theorem ok_ref33_Validate : cFunc Go.Proofs.Try.prog Go.Proofs.Try.f50 = some c_ref33_Validate := by kernel_rfl
abbrev n_combine_decide : Nat := 51
def c_combine_decide : CFunc := ⟨27, [.tmp 4], (.seq (.reg [⟨(some 2), .box 45 (.t 0), none⟩, ⟨(some 4), .move (.c (.bool false)), none⟩])
  (.seq (.reg [⟨(some 7), .faddr 2 (.t 2), none⟩, ⟨(some 8), .load (.t 7), none⟩, ⟨(some 5), .move (.t 8), none⟩])
  (.seq (.block 0 (.loop (.seq (.seq (.reg [⟨(some 9), .move (.t 5), none⟩, ⟨(some 10), .bin .gtr (.t 9) (.c (.int .i64 (.ofNat 1))), none⟩])
  (.cond (.t 10) .skip (.exit 0)))
  (.block 1 (.seq (.reg [⟨(some 11), .faddr 1 (.t 2), none⟩, ⟨(some 12), .load (.t 11), none⟩, ⟨(some 13), .move (.t 5), none⟩, ⟨(some 14), .bin .sub (.t 13) (.c (.int .i64 (.ofNat 2))), none⟩, ⟨(some 15), .iaddr 3 (.t 12) (.t 14), none⟩, ⟨(some 16), .loadN 3 (.t 15), none⟩, ⟨(some 6), .alloc 89 [(.int .i64 (.ofNat 0)), (.int .i64 (.ofNat 0)), (.int .i64 (.ofNat 0))], none⟩, ⟨none, .store 3 (.t 6) (.t 16), none⟩])
  (.seq (.reg [⟨(some 17), .faddr 2 (.t 6), none⟩, ⟨(some 18), .load (.t 17), none⟩, ⟨(some 5), .move (.t 18), none⟩])
  (.seq (.reg [⟨(some 19), .move (.t 1), none⟩, ⟨(some 20), .faddr 0 (.t 6), none⟩, ⟨(some 21), .load (.t 20), none⟩, ⟨(some 22), .callv (.t 19) [(.t 21)], none⟩])
  (.cond (.t 22) (.reg [⟨(some 23), .faddr 1 (.t 6), none⟩, ⟨(some 24), .load (.t 23), none⟩, ⟨(some 5), .move (.t 24), none⟩]) .skip))))))))
  (.seq (.reg [⟨(some 25), .move (.t 5), none⟩, ⟨(some 26), .bin .eql (.t 25) (.c (.int .i64 (.ofNat 1))), none⟩, ⟨(some 4), .move (.t 26), none⟩])
  .ret))))⟩
theorem ok_combine_decide : cFunc Go.Proofs.Try.prog Go.Proofs.Try.f51 = some c_combine_decide := by kernel_rfl
abbrev n_combine_Holds_1 : Nat := 52
def c_combine_Holds_1 : CFunc := ⟨12, [.tmp 4], (.seq (.reg [⟨(some 4), .move (.c (.bool false)), none⟩])
  (.seq (.draw [(⟨(some 5), .faddr 0 (.t 1), none⟩, 0), (⟨(some 6), .load (.t 5), none⟩, 0), (⟨(some 7), .move (.t 0), none⟩, 0), (⟨(some 8), .iaddr 1 (.t 6) (.t 7), none⟩, 0), (⟨(some 9), .loadN 1 (.t 8), none⟩, 0), (⟨(some 10), .load (.t 2), none⟩, 0), (⟨(some 11), .call 53 [(.t 9), (.t 10)], none⟩, 1), (⟨(some 4), .move (.t 11), none⟩, 1)])
  .ret))⟩
theorem ok_combine_Holds_1 : cFunc Go.Proofs.Try.prog Go.Proofs.Try.f52 = some c_combine_Holds_1 := by kernel_rfl
abbrev n_pattern_Match : Nat := 53
def c_pattern_Match : CFunc := ⟨37, [.tmp 4], (.seq (.reg [⟨(some 2), .box 48 (.t 0), none⟩, ⟨(some 4), .move (.c (.bool false)), none⟩])
  (.seq (.seq (.reg [⟨(some 8), .loadN 1 (.t 2), none⟩, ⟨(some 9), .call 48 [(.t 8), (.c (.int .i64 (.ofNat 6)))], none⟩, ⟨(some 10), .bin .neq (.t 9) (.c (.int .i64 (.ofNat 0))), none⟩, ⟨(some 11), .move (.t 10), none⟩, ⟨(some 12), .move (.t 1), (some (11, false))⟩, ⟨(some 13), .call 44 [(.t 12), (.c (.int .i64 (.ofNat 6)))], (some (11, false))⟩, ⟨(some 14), .not (.t 13), (some (11, false))⟩, ⟨(some 15), .pick (.t 11) (.c (.bool true)) (.t 14), none⟩])
  (.cond (.t 15) (.seq (.reg [⟨(some 4), .move (.c (.bool false)), none⟩])
  .ret) .skip))
  (.seq (.reg [⟨(some 16), .loadN 1 (.t 2), none⟩, ⟨(some 17), .call 80 [(.t 16)], none⟩, ⟨(some 5), .alloc 120 [(.string ⟨⟨[]⟩⟩), (.slice none 0 0)], none⟩, ⟨none, .store 2 (.t 5) (.t 17), none⟩])
  (.seq (.reg [⟨(some 18), .loadN 2 (.t 5), none⟩, ⟨(some 19), .call 81 [(.t 18)], none⟩, ⟨(some 6), .move (.t 19), none⟩])
  (.seq (.seq (.reg [⟨(some 7), .move (.c (.int .i64 (.ofNat 0))), none⟩])
  (.block 0 (.loop (.seq (.seq (.reg [⟨(some 20), .move (.t 7), none⟩, ⟨(some 21), .move (.t 1), none⟩, ⟨(some 22), .lenStr (.t 21), none⟩, ⟨(some 23), .bin .lss (.t 20) (.t 22), none⟩])
  (.cond (.t 23) .skip (.exit 0)))
  (.seq (.block 1 (.draw [(⟨(some 26), .loadN 2 (.t 5), none⟩, 0), (⟨(some 27), .move (.t 6), none⟩, 0), (⟨(some 28), .move (.t 1), none⟩, 0), (⟨(some 29), .move (.t 7), none⟩, 0), (⟨(some 30), .idxStr (.t 28) (.t 29), none⟩, 0), (⟨(some 31), .bin .sub (.t 30) (.c (.int .u8 (.ofNat 97))), none⟩, 0), (⟨(some 32), .conv .i64 (.t 31), none⟩, 0), (⟨(some 33), .call 82 [(.t 26), (.t 27), (.t 32)], none⟩, 1), (⟨(some 6), .move (.t 33), none⟩, 1)]))
  (.reg [⟨(some 24), .move (.t 7), none⟩, ⟨(some 25), .bin .add (.t 24) (.c (.int .i64 (.ofNat 1))), none⟩, ⟨(some 7), .move (.t 25), none⟩]))))))
  (.seq (.reg [⟨(some 34), .loadN 2 (.t 5), none⟩, ⟨(some 35), .move (.t 6), none⟩, ⟨(some 36), .call 83 [(.t 34), (.t 35)], none⟩, ⟨(some 4), .move (.t 36), none⟩])
  .ret))))))⟩
theorem ok_pattern_Match : cFunc Go.Proofs.Try.prog Go.Proofs.Try.f53 = some c_pattern_Match := by kernel_rfl
abbrev n_ref01_Valid : Nat := 54
def c_ref01_Valid : CFunc := ⟨33, [.tmp 4], (.seq (.reg [⟨(some 4), .move (.c (.bool false)), none⟩])
  (.seq (.seq (.reg [⟨(some 6), .move (.t 1), none⟩, ⟨(some 7), .call 49 [(.t 6)], none⟩, ⟨(some 8), .not (.t 7), none⟩, ⟨(some 9), .move (.t 8), none⟩, ⟨(some 10), .move (.t 0), (some (9, false))⟩, ⟨(some 11), .lenStr (.t 10), (some (9, false))⟩, ⟨(some 12), .bin .gtr (.t 11) (.c (.int .i64 (.ofNat 2048))), (some (9, false))⟩, ⟨(some 13), .pick (.t 9) (.c (.bool true)) (.t 12), none⟩])
  (.cond (.t 13) (.seq (.reg [⟨(some 4), .move (.c (.bool false)), none⟩])
  .ret) .skip))
  (.seq (.seq (.reg [⟨(some 5), .move (.c (.int .i64 (.ofNat 0))), none⟩])
  (.block 0 (.loop (.seq (.seq (.reg [⟨(some 14), .move (.t 5), none⟩, ⟨(some 15), .move (.t 0), none⟩, ⟨(some 16), .lenStr (.t 15), none⟩, ⟨(some 17), .bin .lss (.t 14) (.t 16), none⟩])
  (.cond (.t 17) .skip (.exit 0)))
  (.seq (.block 1 (.seq (.reg [⟨(some 20), .move (.t 0), none⟩, ⟨(some 21), .move (.t 5), none⟩, ⟨(some 22), .idxStr (.t 20) (.t 21), none⟩, ⟨(some 23), .bin .lss (.t 22) (.c (.int .u8 (.ofNat 97))), none⟩, ⟨(some 24), .move (.t 23), none⟩, ⟨(some 25), .move (.t 0), (some (24, false))⟩, ⟨(some 26), .move (.t 5), (some (24, false))⟩, ⟨(some 27), .idxStr (.t 25) (.t 26), (some (24, false))⟩, ⟨(some 28), .bin .sub (.t 27) (.c (.int .u8 (.ofNat 97))), (some (24, false))⟩, ⟨(some 29), .conv .i64 (.t 28), (some (24, false))⟩, ⟨(some 30), .move (.t 1), (some (24, false))⟩, ⟨(some 31), .bin .geq (.t 29) (.t 30), (some (24, false))⟩, ⟨(some 32), .pick (.t 24) (.c (.bool true)) (.t 31), none⟩])
  (.cond (.t 32) (.seq (.reg [⟨(some 4), .move (.c (.bool false)), none⟩])
  .ret) .skip)))
  (.reg [⟨(some 18), .move (.t 5), none⟩, ⟨(some 19), .bin .add (.t 18) (.c (.int .i64 (.ofNat 1))), none⟩, ⟨(some 5), .move (.t 19), none⟩]))))))
  (.seq (.reg [⟨(some 4), .move (.c (.bool true)), none⟩])
  .ret))))⟩
theorem ok_ref01_Valid : cFunc Go.Proofs.Try.prog Go.Proofs.Try.f54 = some c_ref01_Valid := by kernel_rfl
abbrev n_ref34_Decide : Nat := 55
def c_ref34_Decide : CFunc := ⟨28, [.tmp 4], (.seq (.reg [⟨(some 2), .box 45 (.t 0), none⟩, ⟨(some 4), .move (.c (.bool false)), none⟩])
  (.seq (.reg [⟨(some 7), .faddr 2 (.t 2), none⟩, ⟨(some 8), .load (.t 7), none⟩, ⟨(some 5), .move (.t 8), none⟩])
  (.seq (.block 0 (.loop (.seq (.seq (.reg [⟨(some 9), .move (.t 5), none⟩, ⟨(some 10), .bin .geq (.t 9) (.c (.int .i64 (.ofNat 2))), none⟩])
  (.cond (.t 10) .skip (.exit 0)))
  (.block 1 (.seq (.reg [⟨(some 11), .faddr 1 (.t 2), none⟩, ⟨(some 12), .load (.t 11), none⟩, ⟨(some 13), .move (.t 5), none⟩, ⟨(some 14), .bin .sub (.t 13) (.c (.int .i64 (.ofNat 2))), none⟩, ⟨(some 15), .iaddr 3 (.t 12) (.t 14), none⟩, ⟨(some 16), .loadN 3 (.t 15), none⟩, ⟨(some 6), .alloc 89 [(.int .i64 (.ofNat 0)), (.int .i64 (.ofNat 0)), (.int .i64 (.ofNat 0))], none⟩, ⟨none, .store 3 (.t 6) (.t 16), none⟩])
  (.seq (.reg [⟨(some 17), .move (.t 1), none⟩, ⟨(some 18), .faddr 0 (.t 6), none⟩, ⟨(some 19), .load (.t 18), none⟩, ⟨(some 20), .iaddr 1 (.t 17) (.t 19), none⟩, ⟨(some 21), .load (.t 20), none⟩])
  (.cond (.t 21) (.reg [⟨(some 22), .faddr 1 (.t 6), none⟩, ⟨(some 23), .load (.t 22), none⟩, ⟨(some 5), .move (.t 23), none⟩]) (.reg [⟨(some 24), .faddr 2 (.t 6), none⟩, ⟨(some 25), .load (.t 24), none⟩, ⟨(some 5), .move (.t 25), none⟩]))))))))
  (.seq (.reg [⟨(some 26), .move (.t 5), none⟩, ⟨(some 27), .bin .eql (.t 26) (.c (.int .i64 (.ofNat 1))), none⟩, ⟨(some 4), .move (.t 27), none⟩])
  .ret))))⟩
theorem ok_ref34_Decide : cFunc Go.Proofs.Try.prog Go.Proofs.Try.f55 = some c_ref34_Decide := by kernel_rfl
abbrev n_ref34_Matched : Nat := 56
def c_ref34_Matched : CFunc := ⟨22, [.tmp 4], (.seq (.reg [⟨(some 4), .move (.c (.slice none 0 0)), none⟩])
  (.seq (.reg [⟨(some 5), .move (.c (.slice none 0 0)), none⟩])
  (.seq (.seq (.reg [⟨(some 8), .move (.t 0), none⟩, ⟨(some 9), .lenSl (.t 8), none⟩, ⟨(some 10), .move (.c (.int .i64 (.ofNat 0))), none⟩])
  (.block 0 (.loop (.seq (.reg [⟨(some 11), .bin .lss (.t 10) (.t 9), none⟩])
  (.seq (.cond (.t 11) .skip (.exit 0))
  (.seq (.block 1 (.seq (.reg [⟨(some 12), .iaddr 1 (.t 8) (.t 10), none⟩, ⟨(some 13), .loadN 1 (.t 12), none⟩, ⟨(some 7), .alloc 48 [(.slice none 0 0)], none⟩, ⟨none, .store 1 (.t 7) (.t 13), none⟩])
  (.reg [⟨(some 14), .move (.t 5), none⟩, ⟨(some 15), .loadN 1 (.t 7), none⟩, ⟨(some 16), .move (.t 1), none⟩, ⟨(some 17), .call 84 [(.t 15), (.t 16)], none⟩, ⟨(some 18), .buildSlice 4 1 1 [(.bool false)] [(0, (.t 17))], none⟩, ⟨(some 19), .append 4 1 1 (.t 14) (.t 18), none⟩, ⟨(some 5), .move (.t 19), none⟩])))
  (.reg [⟨(some 20), .bin .add (.t 10) (.c (.int .i64 (.ofNat 1))), none⟩, ⟨(some 10), .move (.t 20), none⟩])))))))
  (.seq (.reg [⟨(some 21), .move (.t 5), none⟩, ⟨(some 4), .move (.t 21), none⟩])
  .ret))))⟩
theorem ok_ref34_Matched : cFunc Go.Proofs.Try.prog Go.Proofs.Try.f56 = some c_ref34_Matched := by kernel_rfl
abbrev n_pattern_run : Nat := 80
def c_pattern_run : CFunc := ⟨50, [.cells 2 2], (.seq (.reg [⟨(some 1), .box 48 (.t 0), none⟩, ⟨(some 2), .alloc 120 [(.string ⟨⟨[]⟩⟩), (.slice none 0 0)], none⟩])
  (.seq (.reg [⟨(some 3), .alloc 120 [(.string ⟨⟨[]⟩⟩), (.slice none 0 0)], none⟩])
  (.seq (.seq (.reg [⟨(some 9), .faddr 0 (.t 1), none⟩, ⟨(some 10), .load (.t 9), none⟩, ⟨(some 11), .lenSl (.t 10), none⟩, ⟨(some 12), .move (.c (.int .i64 (.ofNat 0))), none⟩])
  (.block 0 (.loop (.seq (.reg [⟨(some 13), .bin .lss (.t 12) (.t 11), none⟩])
  (.seq (.cond (.t 13) .skip (.exit 0))
  (.seq (.block 1 (.seq (.reg [⟨(some 14), .iaddr 1 (.t 10) (.t 12), none⟩, ⟨(some 15), .load (.t 14), none⟩, ⟨(some 5), .move (.t 15), none⟩])
  (.reg [⟨(some 16), .faddr 0 (.t 3), none⟩, ⟨(some 17), .load (.t 16), none⟩, ⟨(some 18), .move (.t 5), none⟩, ⟨(some 19), .bin .add (.t 17) (.t 18), none⟩, ⟨(some 20), .faddr 0 (.t 3), none⟩, ⟨none, .store 1 (.t 20) (.t 19), none⟩])))
  (.reg [⟨(some 21), .bin .add (.t 12) (.c (.int .i64 (.ofNat 1))), none⟩, ⟨(some 12), .move (.t 21), none⟩])))))))
  (.seq (.reg [⟨(some 22), .faddr 0 (.t 3), none⟩, ⟨(some 23), .load (.t 22), none⟩, ⟨(some 24), .lenStr (.t 23), none⟩, ⟨(some 25), .bin .add (.t 24) (.c (.int .i64 (.ofNat 1))), none⟩, ⟨(some 26), .mkSlice 4 1 1 [(.bool false)] (.t 25) (.t 25), none⟩, ⟨(some 27), .faddr 1 (.t 3), none⟩, ⟨none, .store 1 (.t 27) (.t 26), none⟩])
  (.seq (.reg [⟨(some 6), .move (.c (.int .i64 (.ofNat 0))), none⟩])
  (.seq (.seq (.reg [⟨(some 28), .faddr 0 (.t 1), none⟩, ⟨(some 29), .load (.t 28), none⟩, ⟨(some 30), .faddr 0 (.t 1), none⟩, ⟨(some 31), .load (.t 30), none⟩, ⟨(some 32), .lenSl (.t 31), none⟩, ⟨(some 33), .bin .sub (.t 32) (.c (.int .i64 (.ofNat 1))), none⟩, ⟨(some 34), .slice 1 (.t 29) none (some (.t 33)), none⟩, ⟨(some 35), .lenSl (.t 34), none⟩, ⟨(some 36), .move (.c (.int .i64 (.ofNat 0))), none⟩])
  (.block 2 (.loop (.seq (.reg [⟨(some 37), .bin .lss (.t 36) (.t 35), none⟩])
  (.seq (.cond (.t 37) .skip (.exit 2))
  (.seq (.block 3 (.seq (.reg [⟨(some 38), .iaddr 1 (.t 34) (.t 36), none⟩, ⟨(some 39), .load (.t 38), none⟩, ⟨(some 8), .move (.t 39), none⟩])
  (.seq (.reg [⟨(some 40), .move (.t 6), none⟩, ⟨(some 41), .move (.t 8), none⟩, ⟨(some 42), .lenStr (.t 41), none⟩, ⟨(some 43), .bin .add (.t 40) (.t 42), none⟩, ⟨(some 6), .move (.t 43), none⟩])
  (.reg [⟨(some 44), .faddr 1 (.t 3), none⟩, ⟨(some 45), .load (.t 44), none⟩, ⟨(some 46), .move (.t 6), none⟩, ⟨(some 47), .iaddr 1 (.t 45) (.t 46), none⟩, ⟨none, .store 1 (.t 47) (.c (.bool true)), none⟩]))))
  (.reg [⟨(some 48), .bin .add (.t 36) (.c (.int .i64 (.ofNat 1))), none⟩, ⟨(some 36), .move (.t 48), none⟩])))))))
  (.seq (.reg [⟨(some 49), .loadN 2 (.t 3), none⟩, ⟨none, .store 2 (.t 2) (.t 49), none⟩])
  .ret)))))))⟩
theorem ok_pattern_run : cFunc Go.Proofs.Try.prog Go.Proofs.Try.f80 = some c_pattern_run := by kernel_rfl
abbrev n_pattern_runner_start : Nat := 81
def c_pattern_runner_start : CFunc := ⟨12, [.tmp 2], (.seq (.reg [⟨(some 1), .box 120 (.t 0), none⟩, ⟨(some 2), .move (.c (.string ⟨⟨[]⟩⟩)), none⟩])
  (.seq (.reg [⟨(some 4), .faddr 1 (.t 1), none⟩, ⟨(some 5), .load (.t 4), none⟩, ⟨(some 6), .lenSl (.t 5), none⟩, ⟨(some 7), .mkSlice 5 1 1 [(.int .u8 (.ofNat 0))] (.t 6) (.t 6), none⟩, ⟨(some 3), .move (.t 7), none⟩])
  (.seq (.reg [⟨(some 8), .move (.t 3), none⟩, ⟨(some 9), .iaddr 1 (.t 8) (.c (.int .i64 (.ofNat 0))), none⟩, ⟨none, .store 1 (.t 9) (.c (.int .u8 (.ofNat 1))), none⟩])
  (.seq (.reg [⟨(some 10), .move (.t 3), none⟩, ⟨(some 11), .strOf (.t 10), none⟩, ⟨(some 2), .move (.t 11), none⟩])
  .ret))))⟩
theorem ok_pattern_runner_start : cFunc Go.Proofs.Try.prog Go.Proofs.Try.f81 = some c_pattern_runner_start := by kernel_rfl
abbrev n_pattern_runner_step : Nat := 82
def c_pattern_runner_step : CFunc := ⟨54, [.tmp 6], (.seq (.reg [⟨(some 3), .box 120 (.t 0), none⟩, ⟨(some 6), .move (.c (.string ⟨⟨[]⟩⟩)), none⟩])
  (.seq (.reg [⟨(some 9), .faddr 1 (.t 3), none⟩, ⟨(some 10), .load (.t 9), none⟩, ⟨(some 11), .lenSl (.t 10), none⟩, ⟨(some 12), .mkSlice 5 1 1 [(.int .u8 (.ofNat 0))] (.t 11) (.t 11), none⟩, ⟨(some 7), .move (.t 12), none⟩])
  (.seq (.seq (.reg [⟨(some 13), .faddr 1 (.t 3), none⟩, ⟨(some 14), .load (.t 13), none⟩, ⟨(some 15), .lenSl (.t 14), none⟩, ⟨(some 16), .move (.c (.int .i64 (.ofNat 0))), none⟩])
  (.block 0 (.loop (.seq (.reg [⟨(some 17), .bin .lss (.t 16) (.t 15), none⟩])
  (.seq (.cond (.t 17) .skip (.exit 0))
  (.seq (.block 1 (.seq (.reg [⟨(some 18), .move (.t 16), none⟩, ⟨(some 8), .move (.t 18), none⟩])
  (.seq (.seq (.reg [⟨(some 19), .move (.t 1), none⟩, ⟨(some 20), .move (.t 8), none⟩, ⟨(some 21), .idxStr (.t 19) (.t 20), none⟩, ⟨(some 22), .bin .eql (.t 21) (.c (.int .u8 (.ofNat 0))), none⟩])
  (.cond (.t 22) (.exit 1) .skip))
  (.seq (.seq (.reg [⟨(some 23), .faddr 1 (.t 3), none⟩, ⟨(some 24), .load (.t 23), none⟩, ⟨(some 25), .move (.t 8), none⟩, ⟨(some 26), .iaddr 1 (.t 24) (.t 25), none⟩, ⟨(some 27), .load (.t 26), none⟩])
  (.cond (.t 27) (.reg [⟨(some 28), .move (.t 7), none⟩, ⟨(some 29), .move (.t 8), none⟩, ⟨(some 30), .iaddr 1 (.t 28) (.t 29), none⟩, ⟨none, .store 1 (.t 30) (.c (.int .u8 (.ofNat 1))), none⟩]) .skip))
  (.seq (.reg [⟨(some 31), .move (.t 8), none⟩, ⟨(some 32), .faddr 0 (.t 3), none⟩, ⟨(some 33), .load (.t 32), none⟩, ⟨(some 34), .lenStr (.t 33), none⟩, ⟨(some 35), .bin .lss (.t 31) (.t 34), none⟩, ⟨(some 36), .move (.t 35), none⟩, ⟨(some 37), .faddr 0 (.t 3), (some (36, true))⟩, ⟨(some 38), .load (.t 37), (some (36, true))⟩, ⟨(some 39), .move (.t 8), (some (36, true))⟩, ⟨(some 40), .idxStr (.t 38) (.t 39), (some (36, true))⟩, ⟨(some 41), .bin .sub (.t 40) (.c (.int .u8 (.ofNat 97))), (some (36, true))⟩, ⟨(some 42), .conv .i64 (.t 41), (some (36, true))⟩, ⟨(some 43), .move (.t 2), (some (36, true))⟩, ⟨(some 44), .bin .eql (.t 42) (.t 43), (some (36, true))⟩, ⟨(some 45), .pick (.t 36) (.t 44) (.c (.bool false)), none⟩])
  (.cond (.t 45) (.reg [⟨(some 46), .move (.t 7), none⟩, ⟨(some 47), .move (.t 8), none⟩, ⟨(some 48), .bin .add (.t 47) (.c (.int .i64 (.ofNat 1))), none⟩, ⟨(some 49), .iaddr 1 (.t 46) (.t 48), none⟩, ⟨none, .store 1 (.t 49) (.c (.int .u8 (.ofNat 1))), none⟩]) .skip))))))
  (.reg [⟨(some 50), .bin .add (.t 16) (.c (.int .i64 (.ofNat 1))), none⟩, ⟨(some 16), .move (.t 50), none⟩])))))))
  (.seq (.reg [⟨(some 51), .loadN 2 (.t 3), none⟩, ⟨(some 52), .move (.t 7), none⟩, ⟨(some 53), .call 103 [(.t 51), (.t 52)], none⟩, ⟨(some 6), .move (.t 53), none⟩])
  .ret))))⟩
theorem ok_pattern_runner_step : cFunc Go.Proofs.Try.prog Go.Proofs.Try.f82 = some c_pattern_runner_step := by kernel_rfl
abbrev n_pattern_runner_ends : Nat := 83
def c_pattern_runner_ends : CFunc := ⟨11, [.tmp 4], (.seq (.reg [⟨(some 2), .box 120 (.t 0), none⟩, ⟨(some 4), .move (.c (.bool false)), none⟩])
  (.seq (.reg [⟨(some 5), .move (.t 1), none⟩, ⟨(some 6), .faddr 0 (.t 2), none⟩, ⟨(some 7), .load (.t 6), none⟩, ⟨(some 8), .lenStr (.t 7), none⟩, ⟨(some 9), .idxStr (.t 5) (.t 8), none⟩, ⟨(some 10), .bin .eql (.t 9) (.c (.int .u8 (.ofNat 1))), none⟩, ⟨(some 4), .move (.t 10), none⟩])
  .ret))⟩
theorem ok_pattern_runner_ends : cFunc Go.Proofs.Try.prog Go.Proofs.Try.f83 = some c_pattern_runner_ends := by kernel_rfl
abbrev n_ref33_Match : Nat := 84
def c_ref33_Match : CFunc := ⟨18, [.tmp 4], (.seq (.reg [⟨(some 2), .box 48 (.t 0), none⟩, ⟨(some 4), .move (.c (.bool false)), none⟩])
  (.seq (.reg [⟨(some 5), .loadN 1 (.t 2), none⟩, ⟨(some 6), .call 50 [(.t 5), (.c (.int .i64 (.ofNat 6)))], none⟩, ⟨(some 7), .bin .eql (.t 6) (.c (.int .i64 (.ofNat 0))), none⟩, ⟨(some 8), .move (.t 7), none⟩, ⟨(some 9), .move (.t 1), (some (8, true))⟩, ⟨(some 10), .call 54 [(.t 9), (.c (.int .i64 (.ofNat 6)))], (some (8, true))⟩, ⟨(some 11), .pick (.t 8) (.t 10) (.c (.bool false)), none⟩, ⟨(some 12), .move (.t 11), none⟩, ⟨(some 13), .faddr 0 (.t 2), (some (12, true))⟩, ⟨(some 14), .load (.t 13), (some (12, true))⟩, ⟨(some 15), .move (.t 1), (some (12, true))⟩, ⟨(some 16), .call 104 [(.t 14), (.t 15)], (some (12, true))⟩, ⟨(some 17), .pick (.t 12) (.t 16) (.c (.bool false)), none⟩, ⟨(some 4), .move (.t 17), none⟩])
  .ret))⟩
theorem ok_ref33_Match : cFunc Go.Proofs.Try.prog Go.Proofs.Try.f84 = some c_ref33_Match := by kernel_rfl
abbrev n_pattern_runner_clean : Nat := 103
def c_pattern_runner_clean : CFunc := ⟨37, [.tmp 4], (.seq (.reg [⟨(some 2), .box 120 (.t 0), none⟩, ⟨(some 4), .move (.c (.string ⟨⟨[]⟩⟩)), none⟩])
  (.seq (.reg [⟨(some 5), .move (.c (.int .i64 (.ofNat 0))), none⟩])
  (.seq (.seq (.reg [⟨(some 9), .move (.t 1), none⟩, ⟨(some 10), .lenSl (.t 9), none⟩, ⟨(some 11), .move (.c (.int .i64 (.ofNat 0))), none⟩])
  (.block 0 (.loop (.seq (.reg [⟨(some 12), .bin .lss (.t 11) (.t 10), none⟩])
  (.seq (.cond (.t 12) .skip (.exit 0))
  (.seq (.block 1 (.seq (.reg [⟨(some 13), .move (.t 11), none⟩, ⟨(some 14), .iaddr 1 (.t 9) (.t 11), none⟩, ⟨(some 15), .load (.t 14), none⟩, ⟨(some 6), .move (.t 13), none⟩, ⟨(some 7), .move (.t 15), none⟩])
  (.seq (.reg [⟨(some 16), .move (.t 7), none⟩, ⟨(some 17), .bin .eql (.t 16) (.c (.int .u8 (.ofNat 1))), none⟩, ⟨(some 18), .move (.t 17), none⟩, ⟨(some 19), .faddr 1 (.t 2), (some (18, true))⟩, ⟨(some 20), .load (.t 19), (some (18, true))⟩, ⟨(some 21), .move (.t 6), (some (18, true))⟩, ⟨(some 22), .iaddr 1 (.t 20) (.t 21), (some (18, true))⟩, ⟨(some 23), .load (.t 22), (some (18, true))⟩, ⟨(some 24), .pick (.t 18) (.t 23) (.c (.bool false)), none⟩])
  (.cond (.t 24) (.reg [⟨(some 25), .move (.t 6), none⟩, ⟨(some 5), .move (.t 25), none⟩]) .skip))))
  (.reg [⟨(some 26), .bin .add (.t 11) (.c (.int .i64 (.ofNat 1))), none⟩, ⟨(some 11), .move (.t 26), none⟩])))))))
  (.seq (.seq (.reg [⟨(some 8), .move (.c (.int .i64 (.ofNat 0))), none⟩])
  (.block 2 (.loop (.seq (.seq (.reg [⟨(some 27), .move (.t 8), none⟩, ⟨(some 28), .move (.t 5), none⟩, ⟨(some 29), .bin .lss (.t 27) (.t 28), none⟩])
  (.cond (.t 29) .skip (.exit 2)))
  (.seq (.block 3 (.reg [⟨(some 32), .move (.t 1), none⟩, ⟨(some 33), .move (.t 8), none⟩, ⟨(some 34), .iaddr 1 (.t 32) (.t 33), none⟩, ⟨none, .store 1 (.t 34) (.c (.int .u8 (.ofNat 0))), none⟩]))
  (.reg [⟨(some 30), .move (.t 8), none⟩, ⟨(some 31), .bin .add (.t 30) (.c (.int .i64 (.ofNat 1))), none⟩, ⟨(some 8), .move (.t 31), none⟩]))))))
  (.seq (.reg [⟨(some 35), .move (.t 1), none⟩, ⟨(some 36), .strOf (.t 35), none⟩, ⟨(some 4), .move (.t 36), none⟩])
  .ret)))))⟩
theorem ok_pattern_runner_clean : cFunc Go.Proofs.Try.prog Go.Proofs.Try.f103 = some c_pattern_runner_clean := by kernel_rfl
abbrev n_ref33_match : Nat := 104
def c_ref33_match : CFunc := ⟨100, [.tmp 4], (.seq (.reg [⟨(some 4), .move (.c (.bool false)), none⟩])
  (.seq (.reg [⟨(some 11), .move (.t 0), none⟩, ⟨(some 12), .iaddr 1 (.t 11) (.c (.int .i64 (.ofNat 0))), none⟩, ⟨(some 13), .load (.t 12), none⟩, ⟨(some 5), .move (.t 13), none⟩])
  (.seq (.seq (.reg [⟨(some 14), .move (.t 1), none⟩, ⟨(some 15), .lenStr (.t 14), none⟩, ⟨(some 16), .move (.t 5), none⟩, ⟨(some 17), .lenStr (.t 16), none⟩, ⟨(some 18), .bin .lss (.t 15) (.t 17), none⟩, ⟨(some 19), .move (.t 18), none⟩, ⟨(some 20), .move (.t 1), (some (19, false))⟩, ⟨(some 21), .move (.t 5), (some (19, false))⟩, ⟨(some 22), .lenStr (.t 21), (some (19, false))⟩, ⟨(some 23), .sub (.t 20) none (some (.t 22)), (some (19, false))⟩, ⟨(some 24), .move (.t 5), (some (19, false))⟩, ⟨(some 25), .bin .neq (.t 23) (.t 24), (some (19, false))⟩, ⟨(some 26), .pick (.t 19) (.c (.bool true)) (.t 25), none⟩])
  (.cond (.t 26) (.seq (.reg [⟨(some 4), .move (.c (.bool false)), none⟩])
  .ret) .skip))
  (.seq (.reg [⟨(some 27), .move (.t 1), none⟩, ⟨(some 28), .move (.t 5), none⟩, ⟨(some 29), .lenStr (.t 28), none⟩, ⟨(some 30), .sub (.t 27) (some (.t 29)) none, none⟩, ⟨(some 1), .move (.t 30), none⟩])
  (.seq (.seq (.reg [⟨(some 31), .move (.t 0), none⟩, ⟨(some 32), .lenSl (.t 31), none⟩, ⟨(some 33), .bin .eql (.t 32) (.c (.int .i64 (.ofNat 1))), none⟩])
  (.cond (.t 33) (.seq (.reg [⟨(some 34), .move (.t 1), none⟩, ⟨(some 35), .bin .eql (.t 34) (.c (.string ⟨⟨[]⟩⟩)), none⟩, ⟨(some 4), .move (.t 35), none⟩])
  .ret) .skip))
  (.seq (.seq (.reg [⟨(some 6), .move (.c (.int .i64 (.ofNat 1))), none⟩])
  (.block 0 (.loop (.seq (.seq (.reg [⟨(some 36), .move (.t 6), none⟩, ⟨(some 37), .move (.t 0), none⟩, ⟨(some 38), .lenSl (.t 37), none⟩, ⟨(some 39), .bin .sub (.t 38) (.c (.int .i64 (.ofNat 1))), none⟩, ⟨(some 40), .bin .lss (.t 36) (.t 39), none⟩])
  (.cond (.t 40) .skip (.exit 0)))
  (.seq (.block 1 (.seq (.reg [⟨(some 43), .move (.t 0), none⟩, ⟨(some 44), .move (.t 6), none⟩, ⟨(some 45), .iaddr 1 (.t 43) (.t 44), none⟩, ⟨(some 46), .load (.t 45), none⟩, ⟨(some 7), .move (.t 46), none⟩, ⟨(some 8), .move (.c (.int .i64 (.negSucc 0))), none⟩])
  (.seq (.seq (.reg [⟨(some 9), .move (.c (.int .i64 (.ofNat 0))), none⟩])
  (.block 2 (.loop (.seq (.seq (.reg [⟨(some 47), .move (.t 9), none⟩, ⟨(some 48), .move (.t 7), none⟩, ⟨(some 49), .lenStr (.t 48), none⟩, ⟨(some 50), .bin .add (.t 47) (.t 49), none⟩, ⟨(some 51), .move (.t 1), none⟩, ⟨(some 52), .lenStr (.t 51), none⟩, ⟨(some 53), .bin .leq (.t 50) (.t 52), none⟩, ⟨(some 54), .move (.t 53), none⟩, ⟨(some 55), .move (.t 8), (some (54, true))⟩, ⟨(some 56), .bin .eql (.t 55) (.c (.int .i64 (.negSucc 0))), (some (54, true))⟩, ⟨(some 57), .pick (.t 54) (.t 56) (.c (.bool false)), none⟩])
  (.cond (.t 57) .skip (.exit 2)))
  (.seq (.block 3 (.seq (.reg [⟨(some 60), .move (.t 1), none⟩, ⟨(some 61), .move (.t 9), none⟩, ⟨(some 62), .move (.t 9), none⟩, ⟨(some 63), .move (.t 7), none⟩, ⟨(some 64), .lenStr (.t 63), none⟩, ⟨(some 65), .bin .add (.t 62) (.t 64), none⟩, ⟨(some 66), .sub (.t 60) (some (.t 61)) (some (.t 65)), none⟩, ⟨(some 67), .move (.t 7), none⟩, ⟨(some 68), .bin .eql (.t 66) (.t 67), none⟩])
  (.cond (.t 68) (.reg [⟨(some 69), .move (.t 9), none⟩, ⟨(some 8), .move (.t 69), none⟩]) .skip)))
  (.reg [⟨(some 58), .move (.t 9), none⟩, ⟨(some 59), .bin .add (.t 58) (.c (.int .i64 (.ofNat 1))), none⟩, ⟨(some 9), .move (.t 59), none⟩]))))))
  (.seq (.seq (.reg [⟨(some 70), .move (.t 8), none⟩, ⟨(some 71), .bin .eql (.t 70) (.c (.int .i64 (.negSucc 0))), none⟩])
  (.cond (.t 71) (.seq (.reg [⟨(some 4), .move (.c (.bool false)), none⟩])
  .ret) .skip))
  (.reg [⟨(some 72), .move (.t 1), none⟩, ⟨(some 73), .move (.t 8), none⟩, ⟨(some 74), .move (.t 7), none⟩, ⟨(some 75), .lenStr (.t 74), none⟩, ⟨(some 76), .bin .add (.t 73) (.t 75), none⟩, ⟨(some 77), .sub (.t 72) (some (.t 76)) none, none⟩, ⟨(some 1), .move (.t 77), none⟩])))))
  (.reg [⟨(some 41), .move (.t 6), none⟩, ⟨(some 42), .bin .add (.t 41) (.c (.int .i64 (.ofNat 1))), none⟩, ⟨(some 6), .move (.t 42), none⟩]))))))
  (.seq (.reg [⟨(some 78), .move (.t 0), none⟩, ⟨(some 79), .move (.t 0), none⟩, ⟨(some 80), .lenSl (.t 79), none⟩, ⟨(some 81), .bin .sub (.t 80) (.c (.int .i64 (.ofNat 1))), none⟩, ⟨(some 82), .iaddr 1 (.t 78) (.t 81), none⟩, ⟨(some 83), .load (.t 82), none⟩, ⟨(some 10), .move (.t 83), none⟩])
  (.seq (.reg [⟨(some 84), .move (.t 1), none⟩, ⟨(some 85), .lenStr (.t 84), none⟩, ⟨(some 86), .move (.t 10), none⟩, ⟨(some 87), .lenStr (.t 86), none⟩, ⟨(some 88), .bin .geq (.t 85) (.t 87), none⟩, ⟨(some 89), .move (.t 88), none⟩, ⟨(some 90), .move (.t 1), (some (89, true))⟩, ⟨(some 91), .move (.t 1), (some (89, true))⟩, ⟨(some 92), .lenStr (.t 91), (some (89, true))⟩, ⟨(some 93), .move (.t 10), (some (89, true))⟩, ⟨(some 94), .lenStr (.t 93), (some (89, true))⟩, ⟨(some 95), .bin .sub (.t 92) (.t 94), (some (89, true))⟩, ⟨(some 96), .sub (.t 90) (some (.t 95)) none, (some (89, true))⟩, ⟨(some 97), .move (.t 10), (some (89, true))⟩, ⟨(some 98), .bin .eql (.t 96) (.t 97), (some (89, true))⟩, ⟨(some 99), .pick (.t 89) (.t 98) (.c (.bool false)), none⟩, ⟨(some 4), .move (.t 99), none⟩])
  .ret))))))))⟩
theorem ok_ref33_match : cFunc Go.Proofs.Try.prog Go.Proofs.Try.f104 = some c_ref33_match := by kernel_rfl
def kprog : Nat → Option CFunc
  | 4 => some c_law34_CombineRaw
  | 16 => some c_combine_Validate
  | 17 => some c_ref34_Validate
  | 18 => some c_combine_Holds
  | 19 => some c_ref34_Holds
  | 20 => some trueFn
  | 44 => some c_word_Valid
  | 48 => some c_pattern_Validate
  | 49 => some c_ref01_MayLetters
  | 50 => some c_ref33_Validate
  | 51 => some c_combine_decide
  | 52 => some c_combine_Holds_1
  | 53 => some c_pattern_Match
  | 54 => some c_ref01_Valid
  | 55 => some c_ref34_Decide
  | 56 => some c_ref34_Matched
  | 80 => some c_pattern_run
  | 81 => some c_pattern_runner_start
  | 82 => some c_pattern_runner_step
  | 83 => some c_pattern_runner_ends
  | 84 => some c_ref33_Match
  | 103 => some c_pattern_runner_clean
  | 104 => some c_ref33_match
  | _ => none
theorem p_law34_CombineRaw : kprog n_law34_CombineRaw = some c_law34_CombineRaw := rfl
theorem p_combine_Validate : kprog n_combine_Validate = some c_combine_Validate := rfl
theorem p_ref34_Validate : kprog n_ref34_Validate = some c_ref34_Validate := rfl
theorem p_combine_Holds : kprog n_combine_Holds = some c_combine_Holds := rfl
theorem p_ref34_Holds : kprog n_ref34_Holds = some c_ref34_Holds := rfl
theorem p_law34_known : kprog n_law34_known = some trueFn := rfl
theorem p_word_Valid : kprog n_word_Valid = some c_word_Valid := rfl
theorem p_pattern_Validate : kprog n_pattern_Validate = some c_pattern_Validate := rfl
theorem p_ref01_MayLetters : kprog n_ref01_MayLetters = some c_ref01_MayLetters := rfl
theorem p_ref33_Validate : kprog n_ref33_Validate = some c_ref33_Validate := rfl
theorem p_combine_decide : kprog n_combine_decide = some c_combine_decide := rfl
theorem p_combine_Holds_1 : kprog n_combine_Holds_1 = some c_combine_Holds_1 := rfl
theorem p_pattern_Match : kprog n_pattern_Match = some c_pattern_Match := rfl
theorem p_ref01_Valid : kprog n_ref01_Valid = some c_ref01_Valid := rfl
theorem p_ref34_Decide : kprog n_ref34_Decide = some c_ref34_Decide := rfl
theorem p_ref34_Matched : kprog n_ref34_Matched = some c_ref34_Matched := rfl
theorem p_pattern_run : kprog n_pattern_run = some c_pattern_run := rfl
theorem p_pattern_runner_start : kprog n_pattern_runner_start = some c_pattern_runner_start := rfl
theorem p_pattern_runner_step : kprog n_pattern_runner_step = some c_pattern_runner_step := rfl
theorem p_pattern_runner_ends : kprog n_pattern_runner_ends = some c_pattern_runner_ends := rfl
theorem p_ref33_Match : kprog n_ref33_Match = some c_ref33_Match := rfl
theorem p_pattern_runner_clean : kprog n_pattern_runner_clean = some c_pattern_runner_clean := rfl
theorem p_ref33_match : kprog n_ref33_match = some c_ref33_match := rfl
theorem kprog_ok (h20 : ∀ w, Calls Go.Proofs.Try.prog 20 #[] w fun e w' => e = .returned (.bool true) ∧ Go.RowKit.Below w.heap.size w w') : ProgOk Go.Proofs.Try.prog kprog := by
  intro f cf h
  unfold kprog at h
  split at h
  · cases h; exact .inl ⟨_, Go.Proofs.Try.func4, ok_law34_CombineRaw, by decide +kernel⟩
  · cases h; exact .inl ⟨_, Go.Proofs.Try.func16, ok_combine_Validate, by decide +kernel⟩
  · cases h; exact .inl ⟨_, Go.Proofs.Try.func17, ok_ref34_Validate, by decide +kernel⟩
  · cases h; exact .inl ⟨_, Go.Proofs.Try.func18, ok_combine_Holds, by decide +kernel⟩
  · cases h; exact .inl ⟨_, Go.Proofs.Try.func19, ok_ref34_Holds, by decide +kernel⟩
  · cases h; exact .inr ⟨rfl, ⟨_, Go.Proofs.Try.func20, by decide +kernel, by decide +kernel⟩, h20⟩
  · cases h; exact .inl ⟨_, Go.Proofs.Try.func44, ok_word_Valid, by decide +kernel⟩
  · cases h; exact .inl ⟨_, Go.Proofs.Try.func48, ok_pattern_Validate, by decide +kernel⟩
  · cases h; exact .inl ⟨_, Go.Proofs.Try.func49, ok_ref01_MayLetters, by decide +kernel⟩
  · cases h; exact .inl ⟨_, Go.Proofs.Try.func50, ok_ref33_Validate, by decide +kernel⟩
  · cases h; exact .inl ⟨_, Go.Proofs.Try.func51, ok_combine_decide, by decide +kernel⟩
  · cases h; exact .inl ⟨_, Go.Proofs.Try.func52, ok_combine_Holds_1, by decide +kernel⟩
  · cases h; exact .inl ⟨_, Go.Proofs.Try.func53, ok_pattern_Match, by decide +kernel⟩
  · cases h; exact .inl ⟨_, Go.Proofs.Try.func54, ok_ref01_Valid, by decide +kernel⟩
  · cases h; exact .inl ⟨_, Go.Proofs.Try.func55, ok_ref34_Decide, by decide +kernel⟩
  · cases h; exact .inl ⟨_, Go.Proofs.Try.func56, ok_ref34_Matched, by decide +kernel⟩
  · cases h; exact .inl ⟨_, Go.Proofs.Try.func80, ok_pattern_run, by decide +kernel⟩
  · cases h; exact .inl ⟨_, Go.Proofs.Try.func81, ok_pattern_runner_start, by decide +kernel⟩
  · cases h; exact .inl ⟨_, Go.Proofs.Try.func82, ok_pattern_runner_step, by decide +kernel⟩
  · cases h; exact .inl ⟨_, Go.Proofs.Try.func83, ok_pattern_runner_ends, by decide +kernel⟩
  · cases h; exact .inl ⟨_, Go.Proofs.Try.func84, ok_ref33_Match, by decide +kernel⟩
  · cases h; exact .inl ⟨_, Go.Proofs.Try.func103, ok_pattern_runner_clean, by decide +kernel⟩
  · cases h; exact .inl ⟨_, Go.Proofs.Try.func104, ok_ref33_match, by decide +kernel⟩
  · cases h
theorem mixed : Go.Proofs.Try.prog.follows .mixedOrders = true := by kernel_rfl
end Go.EvK
end
