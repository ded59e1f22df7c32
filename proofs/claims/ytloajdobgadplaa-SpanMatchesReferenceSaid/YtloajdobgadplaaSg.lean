/- Sg -/
import Derived.Test.YtloajdobgadplaaSf
import Derived.Test.YtloajdobgadplaaPu
open Go.V Go.Pu
set_option linter.unusedVariables false
set_option linter.unusedSimpArgs false
set_option maxRecDepth 20000
namespace Go.Proofs
/-- slices.pdqsortCmpFunc[downspout/api.Span] -/
def vc55 : VCode :=
 (.seq
 (.region 0 false [
 ⟨(some 10), .copy (.c (.bool true)), none, 0, []⟩])
 (.seq
 (.region 1 false [
 ⟨(some 11), .copy (.c (.bool true)), none, 8192, []⟩])
 (.block 0
 (.loop
 (.block 1
 (.seq
 (.region 2 false [
 ⟨(some 21), .copy (.t 2), none, 16384, []⟩,
 ⟨(some 22), .copy (.t 1), none, 16392, []⟩,
 ⟨(some 23), .bin .sub (.t 21) (.t 22), none, 16400, [0, 1]⟩,
 ⟨(some 12), .copy (.t 23), none, 16408, [2, 0, 1]⟩])
 (.seq
 (.seq
 (.region 3 false [
 ⟨(some 24), .copy (.t 12), none, 24576, []⟩,
 ⟨(some 25), .bin .leq (.t 24) (.c (.int .i64 12)), none, 24584, [0]⟩])
 (.cond (.t 25)
 (.seq
 (.region 4 false [
 ⟨(some 26), .copy (.t 0), none, 32768, []⟩,
 ⟨(some 27), .copy (.t 1), none, 32776, []⟩,
 ⟨(some 28), .copy (.t 2), none, 32784, []⟩,
 ⟨(some 29), .copy (.t 4), none, 32792, []⟩,
 ⟨(some 30), .call (.c (.fn 60 [])) [(.t 26), (.t 27), (.t 28), (.t 29)], none, 32800, [0, 1, 2, 3]⟩])
 .ret)
 .skip))
 (.seq
 (.seq
 (.region 5 false [
 ⟨(some 31), .copy (.t 3), none, 40960, []⟩,
 ⟨(some 32), .bin .eql (.t 31) (.c (.int .i64 0)), none, 40968, [0]⟩])
 (.cond (.t 32)
 (.seq
 (.region 6 false [
 ⟨(some 33), .copy (.t 0), none, 49152, []⟩,
 ⟨(some 34), .copy (.t 1), none, 49160, []⟩,
 ⟨(some 35), .copy (.t 2), none, 49168, []⟩,
 ⟨(some 36), .copy (.t 4), none, 49176, []⟩,
 ⟨(some 37), .call (.c (.fn 61 [])) [(.t 33), (.t 34), (.t 35), (.t 36)], none, 49184, [0, 1, 2, 3]⟩])
 .ret)
 .skip))
 (.seq
 (.seq
 (.region 7 false [
 ⟨(some 38), .copy (.t 10), none, 57344, []⟩,
 ⟨(some 39), .not (.t 38), none, 57352, [0]⟩])
 (.cond (.t 39)
 (.seq
 (.region 8 false [
 ⟨(some 40), .copy (.t 0), none, 65536, []⟩,
 ⟨(some 41), .copy (.t 1), none, 65544, []⟩,
 ⟨(some 42), .copy (.t 2), none, 65552, []⟩,
 ⟨(some 43), .copy (.t 4), none, 65560, []⟩,
 ⟨(some 44), .call (.c (.fn 62 [])) [(.t 40), (.t 41), (.t 42), (.t 43)], none, 65568, [0, 1, 2, 3]⟩])
 (.region 9 false [
 ⟨(some 45), .copy (.t 3), none, 73728, []⟩,
 ⟨(some 46), .bin .sub (.t 45) (.c (.int .i64 1)), none, 73736, [0]⟩,
 ⟨(some 3), .copy (.t 46), none, 73744, [1, 0]⟩]))
 .skip))
 (.seq
 (.region 10 false [
 ⟨(some 48), .copy (.t 0), none, 81920, []⟩,
 ⟨(some 49), .copy (.t 1), none, 81928, []⟩,
 ⟨(some 50), .copy (.t 2), none, 81936, []⟩,
 ⟨(some 51), .copy (.t 4), none, 81944, []⟩,
 ⟨(some 52), .call (.c (.fn 63 [])) [(.t 48), (.t 49), (.t 50), (.t 51)], none, 81952, [0, 1, 2, 3]⟩,
 ⟨(some 47), .copy (.t 52), none, 81960, [4, 0, 1, 2, 3]⟩,
 ⟨(some 53), .extract (.t 47) 0, none, 81968, [5, 4, 0, 1, 2, 3]⟩,
 ⟨(some 54), .extract (.t 47) 1, none, 81976, [5, 4, 0, 1, 2, 3]⟩,
 ⟨(some 13), .copy (.t 53), none, 81984, [6, 5, 4, 0, 1, 2, 3]⟩,
 ⟨(some 14), .copy (.t 54), none, 81992, [7, 5, 4, 0, 1, 2, 3, 8, 6]⟩])
 (.seq
 (.seq
 (.region 11 false [
 ⟨(some 55), .copy (.t 14), none, 90112, []⟩,
 ⟨(some 56), .bin .eql (.t 55) (.c (.int .i64 2)), none, 90120, [0]⟩])
 (.cond (.t 56)
 (.seq
 (.region 12 false [
 ⟨(some 57), .copy (.t 0), none, 98304, []⟩,
 ⟨(some 58), .copy (.t 1), none, 98312, []⟩,
 ⟨(some 59), .copy (.t 2), none, 98320, []⟩,
 ⟨(some 60), .copy (.t 4), none, 98328, []⟩,
 ⟨(some 61), .call (.c (.fn 64 [])) [(.t 57), (.t 58), (.t 59), (.t 60)], none, 98336, [0, 1, 2, 3]⟩])
 (.seq
 (.region 13 false [
 ⟨(some 62), .copy (.t 2), none, 106496, []⟩,
 ⟨(some 63), .bin .sub (.t 62) (.c (.int .i64 1)), none, 106504, [0]⟩,
 ⟨(some 64), .copy (.t 13), none, 106512, []⟩,
 ⟨(some 65), .copy (.t 1), none, 106520, []⟩,
 ⟨(some 66), .bin .sub (.t 64) (.t 65), none, 106528, [2, 3]⟩,
 ⟨(some 67), .bin .sub (.t 63) (.t 66), none, 106536, [1, 0, 4, 2, 3]⟩,
 ⟨(some 13), .copy (.t 67), none, 106544, [5, 1, 0, 4, 2, 3]⟩])
 (.region 14 false [
 ⟨(some 14), .copy (.c (.int .i64 1)), none, 114688, []⟩])))
 .skip))
 (.seq
 (.seq
 (.region 15 false [
 ⟨(some 68), .copy (.t 10), none, 122880, []⟩,
 ⟨(some 69), .copy (.t 68), none, 122888, [0]⟩,
 ⟨(some 70), .copy (.t 11), (some (1, 69, true)), 122896, [1, 0]⟩,
 ⟨(some 71), .pick (.t 69) (.t 70) (.c (.bool false)), none, 122904, [1, 0, 2]⟩,
 ⟨(some 72), .copy (.t 71), none, 122912, [3, 1, 0, 2]⟩,
 ⟨(some 73), .copy (.t 14), (some (4, 72, true)), 122920, [4, 3, 1, 0, 2]⟩,
 ⟨(some 74), .bin .eql (.t 73) (.c (.int .i64 1)), (some (4, 72, true)), 122928, [5, 4, 3, 1, 0, 2]⟩,
 ⟨(some 75), .pick (.t 72) (.t 74) (.c (.bool false)), none, 122936, [4, 3, 1, 0, 2, 6, 5]⟩])
 (.cond (.t 75)
 (.seq
 (.region 16 false [
 ⟨(some 76), .copy (.t 0), none, 131072, []⟩,
 ⟨(some 77), .copy (.t 1), none, 131080, []⟩,
 ⟨(some 78), .copy (.t 2), none, 131088, []⟩,
 ⟨(some 79), .copy (.t 4), none, 131096, []⟩,
 ⟨(some 80), .call (.c (.fn 65 [])) [(.t 76), (.t 77), (.t 78), (.t 79)], none, 131104, [0, 1, 2, 3]⟩])
 (.cond (.t 80)
 .ret
 .skip))
 .skip))
 (.seq
 (.seq
 (.region 17 true [
 ⟨(some 81), .copy (.t 1), none, 139264, []⟩,
 ⟨(some 82), .bin .gtr (.t 81) (.c (.int .i64 0)), none, 139272, [0]⟩,
 ⟨(some 83), .copy (.t 82), none, 139280, [1, 0]⟩,
 ⟨(some 84), .copy (.t 4), (some (2, 83, true)), 139288, [2, 1, 0]⟩,
 ⟨(some 85), .copy (.t 0), (some (2, 83, true)), 139296, [2, 1, 0]⟩,
 ⟨(some 86), .copy (.t 1), (some (2, 83, true)), 139304, [2, 1, 0]⟩,
 ⟨(some 87), .bin .sub (.t 86) (.c (.int .i64 1)), (some (2, 83, true)), 139312, [5, 2, 1, 0]⟩,
 ⟨(some 88), .iaddr 2 (.t 85) (.t 87), (some (2, 83, true)), 139320, [4, 2, 1, 0, 6, 5]⟩,
 ⟨(some 89), .load true 2 (.t 88), (some (2, 83, true)), 139328, [7, 4, 2, 1, 0, 6, 5]⟩,
 ⟨(some 90), .copy (.t 0), (some (2, 83, true)), 139336, [2, 1, 0]⟩,
 ⟨(some 91), .copy (.t 13), (some (2, 83, true)), 139344, [2, 1, 0]⟩,
 ⟨(some 92), .iaddr 2 (.t 90) (.t 91), (some (2, 83, true)), 139352, [9, 2, 1, 0, 10]⟩,
 ⟨(some 93), .load true 2 (.t 92), (some (2, 83, true)), 139360, [11, 9, 2, 1, 0, 10]⟩,
 ⟨(some 94), .call (.t 84) [(.t 89), (.t 93)], (some (2, 83, true)), 139368, [3, 2, 1, 0, 8, 7, 4, 6, 5, 12, 11, 9, 10]⟩,
 ⟨(some 95), .bin .lss (.t 94) (.c (.int .i64 0)), (some (2, 83, true)), 139376, [13, 3, 2, 1, 0, 8, 7, 4, 6, 5, 12, 11, 9, 10]⟩,
 ⟨(some 96), .not (.t 95), (some (2, 83, true)), 139384, [14, 13, 3, 2, 1, 0, 8, 7, 4, 6, 5, 12, 11, 9, 10]⟩,
 ⟨(some 97), .pick (.t 83) (.t 96) (.c (.bool false)), none, 139392, [2, 1, 0, 15, 14, 13, 3, 8, 7, 4, 6, 5, 12, 11, 9, 10]⟩])
 (.cond (.t 97)
 (.seq
 (.region 18 false [
 ⟨(some 98), .copy (.t 0), none, 147456, []⟩,
 ⟨(some 99), .copy (.t 1), none, 147464, []⟩,
 ⟨(some 100), .copy (.t 2), none, 147472, []⟩,
 ⟨(some 101), .copy (.t 13), none, 147480, []⟩,
 ⟨(some 102), .copy (.t 4), none, 147488, []⟩,
 ⟨(some 103), .call (.c (.fn 66 [])) [(.t 98), (.t 99), (.t 100), (.t 101), (.t 102)], none, 147496, [0, 1, 2, 3, 4]⟩,
 ⟨(some 15), .copy (.t 103), none, 147504, [5, 0, 1, 2, 3, 4]⟩])
 (.seq
 (.region 19 false [
 ⟨(some 104), .copy (.t 15), none, 155648, []⟩,
 ⟨(some 1), .copy (.t 104), none, 155656, [0]⟩])
 (.exit 1)))
 .skip))
 (.seq
 (.region 20 false [
 ⟨(some 106), .copy (.t 0), none, 163840, []⟩,
 ⟨(some 107), .copy (.t 1), none, 163848, []⟩,
 ⟨(some 108), .copy (.t 2), none, 163856, []⟩,
 ⟨(some 109), .copy (.t 13), none, 163864, []⟩,
 ⟨(some 110), .copy (.t 4), none, 163872, []⟩,
 ⟨(some 111), .call (.c (.fn 67 [])) [(.t 106), (.t 107), (.t 108), (.t 109), (.t 110)], none, 163880, [0, 1, 2, 3, 4]⟩,
 ⟨(some 105), .copy (.t 111), none, 163888, [5, 0, 1, 2, 3, 4]⟩,
 ⟨(some 112), .extract (.t 105) 0, none, 163896, [6, 5, 0, 1, 2, 3, 4]⟩,
 ⟨(some 113), .extract (.t 105) 1, none, 163904, [6, 5, 0, 1, 2, 3, 4]⟩,
 ⟨(some 16), .copy (.t 112), none, 163912, [7, 6, 5, 0, 1, 2, 3, 4]⟩,
 ⟨(some 17), .copy (.t 113), none, 163920, [8, 6, 5, 0, 1, 2, 3, 4, 9, 7]⟩])
 (.seq
 (.region 21 false [
 ⟨(some 114), .copy (.t 17), none, 172032, []⟩,
 ⟨(some 11), .copy (.t 114), none, 172040, [0]⟩])
 (.seq
 (.region 22 false [
 ⟨(some 115), .copy (.t 16), none, 180224, []⟩,
 ⟨(some 116), .copy (.t 1), none, 180232, []⟩,
 ⟨(some 117), .bin .sub (.t 115) (.t 116), none, 180240, [0, 1]⟩,
 ⟨(some 118), .copy (.t 2), none, 180248, []⟩,
 ⟨(some 119), .copy (.t 16), none, 180256, []⟩,
 ⟨(some 120), .bin .sub (.t 118) (.t 119), none, 180264, [3, 4]⟩,
 ⟨(some 18), .copy (.t 117), none, 180272, [2, 0, 1]⟩,
 ⟨(some 19), .copy (.t 120), none, 180280, [5, 3, 4, 6, 2, 0, 1]⟩])
 (.seq
 (.region 23 false [
 ⟨(some 121), .copy (.t 12), none, 188416, []⟩,
 ⟨(some 122), .bin .quo (.t 121) (.c (.int .i64 8)), none, 188424, [0]⟩,
 ⟨(some 20), .copy (.t 122), none, 188432, [1, 0]⟩])
 (.seq
 (.region 24 false [
 ⟨(some 123), .copy (.t 18), none, 196608, []⟩,
 ⟨(some 124), .copy (.t 19), none, 196616, []⟩,
 ⟨(some 125), .bin .lss (.t 123) (.t 124), none, 196624, [0, 1]⟩])
 (.cond (.t 125)
 (.seq
 (.region 25 false [
 ⟨(some 126), .copy (.t 18), none, 204800, []⟩,
 ⟨(some 127), .copy (.t 20), none, 204808, []⟩,
 ⟨(some 128), .bin .geq (.t 126) (.t 127), none, 204816, [0, 1]⟩,
 ⟨(some 10), .copy (.t 128), none, 204824, [2, 0, 1]⟩])
 (.seq
 (.region 26 false [
 ⟨(some 129), .copy (.t 0), none, 212992, []⟩,
 ⟨(some 130), .copy (.t 1), none, 213000, []⟩,
 ⟨(some 131), .copy (.t 16), none, 213008, []⟩,
 ⟨(some 132), .copy (.t 3), none, 213016, []⟩,
 ⟨(some 133), .copy (.t 4), none, 213024, []⟩,
 ⟨(some 134), .call (.c (.fn 55 [])) [(.t 129), (.t 130), (.t 131), (.t 132), (.t 133)], none, 213032, [0, 1, 2, 3, 4]⟩])
 (.region 27 false [
 ⟨(some 135), .copy (.t 16), none, 221184, []⟩,
 ⟨(some 136), .bin .add (.t 135) (.c (.int .i64 1)), none, 221192, [0]⟩,
 ⟨(some 1), .copy (.t 136), none, 221200, [1, 0]⟩])))
 (.seq
 (.region 28 false [
 ⟨(some 137), .copy (.t 19), none, 229376, []⟩,
 ⟨(some 138), .copy (.t 20), none, 229384, []⟩,
 ⟨(some 139), .bin .geq (.t 137) (.t 138), none, 229392, [0, 1]⟩,
 ⟨(some 10), .copy (.t 139), none, 229400, [2, 0, 1]⟩])
 (.seq
 (.region 29 false [
 ⟨(some 140), .copy (.t 0), none, 237568, []⟩,
 ⟨(some 141), .copy (.t 16), none, 237576, []⟩,
 ⟨(some 142), .bin .add (.t 141) (.c (.int .i64 1)), none, 237584, [1]⟩,
 ⟨(some 143), .copy (.t 2), none, 237592, []⟩,
 ⟨(some 144), .copy (.t 3), none, 237600, []⟩,
 ⟨(some 145), .copy (.t 4), none, 237608, []⟩,
 ⟨(some 146), .call (.c (.fn 55 [])) [(.t 140), (.t 142), (.t 143), (.t 144), (.t 145)], none, 237616, [0, 2, 1, 3, 4, 5]⟩])
 (.region 30 false [
 ⟨(some 147), .copy (.t 16), none, 245760, []⟩,
 ⟨(some 2), .copy (.t 147), none, 245768, [0]⟩]))))))))))))))))))))))
theorem vf55 : VF Try.prog 55 = some (148, vc55, []) := by kernel_rfl
/-! The sort, whole -/
theorem pdq_step {d d1 d2 d3 : Array SpanL} {a b limit l1 pivot : Nat} {wb wp fin : Bool} {c : Nat × Sort.Hint} {hint : Sort.Hint} (h12 : ¬ b - a ≤ 12) (hl : ¬ limit = 0)
    (e1 : (if (!wb) = true then Sort.breakPatterns d a b else d) = d1) (e2 : (if (!wb) = true then limit - 1 else limit) = l1) (e3 : Sort.choosePivot ltS d1 a b = c)
    (e4 : (if c.2 = .decreasing then Sort.reverseRange d1 a b else d1) = d2) (e5 : (if c.2 = .decreasing then (b - 1) - (c.1 - a) else c.1) = pivot) (e6 : (if c.2 = .decreasing then Sort.Hint.increasing else c.2) = hint)
    (e7 : (if (wb && wp && decide (hint = .increasing)) = true then Sort.partialInsertionSort ltS d2 a b else (d2, false)) = (d3, fin)) :
    Sort.pdq ltS d a b limit wb wp = if fin = true then d3 else
      if (decide (a > 0) && !ltS d3[a - 1]! d3[pivot]!) = true then
        (if a < (Sort.partitionEqual ltS d3 a b pivot).1 ∧ (Sort.partitionEqual ltS d3 a b pivot).1 ≤ b then Sort.pdq ltS (Sort.partitionEqual ltS d3 a b pivot).2 (Sort.partitionEqual ltS d3 a b pivot).1 b l1 wb wp else (Sort.partitionEqual ltS d3 a b pivot).2)
      else
        (if a ≤ (Sort.partition ltS d3 a b pivot).1 ∧ (Sort.partition ltS d3 a b pivot).1 < b then
          (if (Sort.partition ltS d3 a b pivot).1 - a < b - (Sort.partition ltS d3 a b pivot).1 then
            Sort.pdq ltS (Sort.pdq ltS (Sort.partition ltS d3 a b pivot).2.2 a (Sort.partition ltS d3 a b pivot).1 l1 true true) ((Sort.partition ltS d3 a b pivot).1 + 1) b l1 (decide ((Sort.partition ltS d3 a b pivot).1 - a ≥ (b - a) / 8)) (Sort.partition ltS d3 a b pivot).2.1
          else Sort.pdq ltS (Sort.pdq ltS (Sort.partition ltS d3 a b pivot).2.2 ((Sort.partition ltS d3 a b pivot).1 + 1) b l1 true true) a (Sort.partition ltS d3 a b pivot).1 l1 (decide (b - (Sort.partition ltS d3 a b pivot).1 ≥ (b - a) / 8)) (Sort.partition ltS d3 a b pivot).2.1)
        else (Sort.partition ltS d3 a b pivot).2.2) := by
  rw [Sort.pdq, if_neg h12, if_neg hl]
  simp only [e1, e2, e3, e4, e5, e6, e7]
  rfl
theorem pdq_size : ∀ (m : Nat) (d : Array SpanL) (a b limit : Nat) (wb wp : Bool), b - a = m → (Sort.pdq ltS d a b limit wb wp).size = d.size := by
  intro m
  induction m using Nat.strongRecOn with
  | _ m ih =>
  intro d a b limit wb wp hm
  by_cases h12 : b - a ≤ 12
  · rw [Sort.pdq, if_pos h12]; exact insOuter_size _ _ _ _ _
  by_cases hl : limit = 0
  · rw [Sort.pdq, if_neg h12, if_pos hl]; exact heapSort_size _ _ _ _
  obtain ⟨d1, e1⟩ : ∃ d1, (if (!wb) = true then Sort.breakPatterns d a b else d) = d1 := ⟨_, rfl⟩
  obtain ⟨l1, e2⟩ : ∃ l1, (if (!wb) = true then limit - 1 else limit) = l1 := ⟨_, rfl⟩
  obtain ⟨c, e3⟩ : ∃ c, Sort.choosePivot ltS d1 a b = c := ⟨_, rfl⟩
  obtain ⟨d2, e4⟩ : ∃ d2, (if c.2 = .decreasing then Sort.reverseRange d1 a b else d1) = d2 := ⟨_, rfl⟩
  obtain ⟨pivot, e5⟩ : ∃ p, (if c.2 = .decreasing then (b - 1) - (c.1 - a) else c.1) = p := ⟨_, rfl⟩
  obtain ⟨hint, e6⟩ : ∃ h, (if c.2 = .decreasing then Sort.Hint.increasing else c.2) = h := ⟨_, rfl⟩
  obtain ⟨⟨d3, fin⟩, e7⟩ : ∃ r : Array SpanL × Bool, (if (wb && wp && decide (hint = .increasing)) = true then Sort.partialInsertionSort ltS d2 a b else (d2, false)) = r := ⟨_, rfl⟩
  have h1 : d1.size = d.size := by rw [← e1]; split <;> simp [break_size]
  have h2 : d2.size = d.size := by rw [← e4]; split <;> simp [reverse_size, h1]
  have h3 : d3.size = d.size := by
    have : (if (wb && wp && decide (hint = .increasing)) = true then Sort.partialInsertionSort ltS d2 a b else (d2, false)).1.size = d.size := by
      split
      · exact (partialIns_size ltS a b 5 (a + 1) d2).trans h2
      · exact h2
    rw [e7] at this; exact this
  rw [pdq_step h12 hl e1 e2 e3 e4 e5 e6 e7]
  split
  · exact h3
  · split
    · split
      · rename_i h
        rw [ih _ (by omega) _ _ _ _ _ _ rfl, partitionEqual_size, h3]
      · rw [partitionEqual_size, h3]
    · split
      · rename_i h
        split
        · rw [ih _ (by omega) _ _ _ _ _ _ rfl, ih _ (by omega) _ _ _ _ _ _ rfl, partition_size, h3]
        · rw [ih _ (by omega) _ _ _ _ _ _ rfl, ih _ (by omega) _ _ _ _ _ _ rfl, partition_size, h3]
      · rw [partition_size, h3]
set_option maxHeartbeats 8000000 in
theorem pdq_vc {N n : Nat} (hn : n ≤ N) (hm : N ≤ 60000) : ∀ (m : Nat) (xs : List SpanL) (a b limit : Nat), b - a = m → xs.length = N → a ≤ b → b ≤ n → limit ≤ 100 →
    VC Try.prog 55 [.own ⟨0, 0⟩ N 0 n, .int .i64 a, .int .i64 b, .int .i64 limit, .fn 47 []] [blkV 2 (xs.map encS)] (.tup []) (srt (Sort.pdq ltS xs.toArray a b limit true true)) := by
  intro m
  induction m using Nat.strongRecOn with
  | _ m ih =>
  intro xs a0 b0 limit0 hm0 hN hab0 hb0 hl0
  refine vc_of vf55 ?_ (Nat.le_of_ble_eq_true rfl) (by intro vs h; cases h; simp)
  generalize htar : Sort.pdq ltS xs.toArray a0 b0 limit0 true true = tar
  repeat first | refine o_copy ?_ | refine nl ?_ | refine ct_seq ?_ | refine rg ?_ | refine ct_block ?_ | refine bq ?_ | refine o_iaddr ?_ | refine o_iaddrO ?_ | refine o_iaddrR ?_ | refine o_add ?_ | refine o_sub ?_ | refine o_cat ?_ | refine o_bin ?_ | refine o_loadsA ?_ | refine o_loadpA ?_ | refine o_not ?_ | refine o_pickt ?_ | refine o_pickf ?_ | refine o_extract ?_ | refine skF ?_ | refine skU ?_
  refine ct_loopG (fun (g : Nat × Nat × Nat × Bool × Bool × List SpanL) => [(0, .own ⟨0, 0⟩ N 0 n), (1, .int .i64 g.1), (2, .int .i64 (g.2.1 : Nat)), (3, .int .i64 (g.2.2.1 : Nat)), (4, .fn 47 []), (10, .bool g.2.2.2.1), (11, .bool g.2.2.2.2.1)])
    (fun g => [(⟨0, 0⟩, blkV 2 (g.2.2.2.2.2.map encS))]) (fun g => g.2.1 - g.1)
    (fun g => g.1 ≤ g.2.1 ∧ g.2.1 ≤ n ∧ g.2.2.1 ≤ 100 ∧ g.2.1 - g.1 ≤ m ∧ g.2.2.2.2.2.length = N ∧ Sort.pdq ltS g.2.2.2.2.2.toArray g.1 g.2.1 g.2.2.1 g.2.2.2.1 g.2.2.2.2.1 = tar) (a0, b0, limit0, true, true, xs)
    goes ⟨hab0, hb0, hl0, by simp only; omega, hN, htar⟩ ?_
  rintro ⟨a, b, lim, wb, wp, ys⟩ ⟨hab, hbn, hlim, hbm, hyl, hv⟩
  dsimp only at hab hbn hlim hbm hyl hv ⊢
  refine ct_block ?_
  repeat first | refine o_copy ?_ | refine nl ?_ | refine ct_seq ?_ | refine rg ?_ | refine ct_block ?_ | refine bq ?_ | refine o_iaddr ?_ | refine o_iaddrO ?_ | refine o_iaddrR ?_ | refine o_add ?_ | refine o_sub ?_ | refine o_cat ?_ | refine o_bin ?_ | refine o_loadsA ?_ | refine o_loadpA ?_ | refine o_not ?_ | refine o_pickt ?_ | refine o_pickf ?_ | refine o_extract ?_ | refine skF ?_ | refine skU ?_
  by_cases h12 : b - a ≤ 12
  · refine cndt ?_ rfl (decide_eq_true (by omega))
    rw [Sort.pdq, if_pos h12] at hv
    subst hv
    repeat first | refine o_copy ?_ | refine nl ?_ | refine ct_seq ?_ | refine rg ?_ | refine ct_block ?_ | refine bq ?_ | refine cl (lent := [⟨0, 0⟩]) (ins_vc (n := n) ys a b hyl (by omega) hbn hn (by omega)) ?_ | refine o_iaddr ?_ | refine o_iaddrO ?_ | refine o_iaddrR ?_ | refine o_add ?_ | refine o_sub ?_ | refine o_cat ?_ | refine o_bin ?_ | refine o_loadsA ?_ | refine o_loadpA ?_ | refine o_not ?_ | refine o_pickt ?_ | refine o_pickf ?_ | refine o_extract ?_ | refine skF ?_ | refine skU ?_
    exact ct_ret ⟨.inr rfl, oL1 rfl⟩
  refine cndf (ct_skip ?_) rfl (decide_eq_false (by omega))
  repeat first | refine o_copy ?_ | refine nl ?_ | refine ct_seq ?_ | refine rg ?_ | refine ct_block ?_ | refine bq ?_ | refine o_iaddr ?_ | refine o_iaddrO ?_ | refine o_iaddrR ?_ | refine o_add ?_ | refine o_sub ?_ | refine o_cat ?_ | refine o_bin ?_ | refine o_loadsA ?_ | refine o_loadpA ?_ | refine o_not ?_ | refine o_pickt ?_ | refine o_pickf ?_ | refine o_extract ?_ | refine skF ?_ | refine skU ?_
  by_cases hl : lim = 0
  · refine cndt ?_ rfl (by simp [hl])
    rw [Sort.pdq, if_neg h12, if_pos hl] at hv
    subst hv
    repeat first | refine o_copy ?_ | refine nl ?_ | refine ct_seq ?_ | refine rg ?_ | refine ct_block ?_ | refine bq ?_ | refine cl (lent := [⟨0, 0⟩]) (heap_vc (n := n) ys a b hyl (by omega) hbn hn (by omega)) ?_ | refine o_iaddr ?_ | refine o_iaddrO ?_ | refine o_iaddrR ?_ | refine o_add ?_ | refine o_sub ?_ | refine o_cat ?_ | refine o_bin ?_ | refine o_loadsA ?_ | refine o_loadpA ?_ | refine o_not ?_ | refine o_pickt ?_ | refine o_pickf ?_ | refine o_extract ?_ | refine skF ?_ | refine skU ?_
    exact ct_ret ⟨.inr rfl, oL1 rfl⟩
  refine cndf (ct_skip ?_) rfl (by simp; omega)
  obtain ⟨d1, e1⟩ : ∃ d1, (if (!wb) = true then Sort.breakPatterns ys.toArray a b else ys.toArray) = d1 := ⟨_, rfl⟩
  obtain ⟨l1, e2⟩ : ∃ l1, (if (!wb) = true then lim - 1 else lim) = l1 := ⟨_, rfl⟩
  have hl1 : l1 ≤ 100 := by rw [← e2]; split <;> omega
  have hs1 : d1.size = N := by
    rw [← e1]
    split
    · rw [(Sort.breakPatterns_holds ys.toArray a b hab (by simp; omega)).1]; simpa using hyl
    · simpa using hyl
  refine ct_mid (lvl := 1) (fun (g : List SpanL) => [(0, .own ⟨0, 0⟩ N 0 n), (1, .int .i64 a), (2, .int .i64 b), (3, .int .i64 l1), (4, .fn 47 []), (10, .bool wb), (11, .bool wp), (12, .int .i64 ((b : Int) - a))])
    (fun g => [(⟨0, 0⟩, blkV 2 (g.map encS))]) (fun g => g.toArray = d1) ?_ ?_
  · repeat first | refine o_copy ?_ | refine nl ?_ | refine ct_seq ?_ | refine rg ?_ | refine ct_block ?_ | refine bq ?_ | refine o_iaddr ?_ | refine o_iaddrO ?_ | refine o_iaddrR ?_ | refine o_add ?_ | refine o_sub ?_ | refine o_cat ?_ | refine o_bin ?_ | refine o_loadsA ?_ | refine o_loadpA ?_ | refine o_not ?_ | refine o_pickt ?_ | refine o_pickf ?_ | refine o_extract ?_ | refine skF ?_ | refine skU ?_
    cases wb with
    | true =>
      refine cndf (ct_skip ?_)
      have : l1 = lim := e2.symm
      subst this
      exact ⟨ys, e1, goes⟩
    | false =>
      refine cndt ?_
      repeat first | refine o_copy ?_ | refine nl ?_ | refine ct_seq ?_ | refine rg ?_ | refine ct_block ?_ | refine bq ?_ | refine cl (lent := [⟨0, 0⟩]) (break_vc (n := n) ys a b hyl hab hbn hn (by omega)) ?_ | refine o_iaddr ?_ | refine o_iaddrO ?_ | refine o_iaddrR ?_ | refine o_add ?_ | refine o_sub ?_ | refine o_cat ?_ | refine o_bin ?_ | refine o_loadsA ?_ | refine o_loadpA ?_ | refine o_not ?_ | refine o_pickt ?_ | refine o_pickf ?_ | refine o_extract ?_ | refine skF ?_ | refine skU ?_
      refine ⟨d1.toList, by simp, goes (h1 := by
        refine ⟨rfl, rfl, rfl, congrArg (fun z => some (PV.int .i64 z)) (?_ : (lim : Int) - 1 = (l1 : Nat)), rfl, rfl, rfl, rfl, trivial⟩
        have : lim - 1 = l1 := e2
        omega) (h2 := ?_)⟩
      refine ⟨?_, trivial⟩
      have : Sort.breakPatterns ys.toArray a b = d1 := e1
      rw [← this]; rfl
  rintro ys1 hy1
  (try dsimp only)
  have hy1l : ys1.length = N := by have := congrArg Array.size hy1; simp at this; omega
  have hcb := Sort.choosePivot_holds ltS d1 a b (by omega)
  obtain ⟨c, e3⟩ : ∃ c, Sort.choosePivot ltS d1 a b = c := ⟨_, rfl⟩
  rw [e3] at hcb
  have hcv := choose_vc (n := n) ys1 a b hy1l (by omega) hbn hn hm
  rw [hy1, e3] at hcv
  refine ct_seq (rg ?_)
  repeat first | refine o_copy ?_ | refine cl (lent := [⟨0, 0⟩]) hcv ?_ | refine o_iaddr ?_ | refine o_iaddrO ?_ | refine o_iaddrR ?_ | refine o_add ?_ | refine o_sub ?_ | refine o_cat ?_ | refine o_bin ?_ | refine o_loadsA ?_ | refine o_loadpA ?_ | refine o_not ?_ | refine o_pickt ?_ | refine o_pickf ?_ | refine o_extract ?_ | refine skF ?_ | refine skU ?_
  refine nl ?_
  obtain ⟨d2, e4⟩ : ∃ d2, (if c.2 = .decreasing then Sort.reverseRange d1 a b else d1) = d2 := ⟨_, rfl⟩
  obtain ⟨pivot, e5⟩ : ∃ p, (if c.2 = .decreasing then (b - 1) - (c.1 - a) else c.1) = p := ⟨_, rfl⟩
  obtain ⟨hint, e6⟩ : ∃ h, (if c.2 = .decreasing then Sort.Hint.increasing else c.2) = h := ⟨_, rfl⟩
  have hp1 : a ≤ pivot := by rw [← e5]; split <;> omega
  have hp2 : pivot < b := by rw [← e5]; split <;> omega
  have hs2 : d2.size = N := by
    rw [← e4]
    split
    · rw [(Sort.reverseRange_holds d1 a b hab (by omega)).1]; exact hs1
    · exact hs1
  refine ct_mid (lvl := 1) (fun (g : List SpanL) => [(0, .own ⟨0, 0⟩ N 0 n), (1, .int .i64 a), (2, .int .i64 b), (3, .int .i64 l1), (4, .fn 47 []), (10, .bool wb), (11, .bool wp), (12, .int .i64 ((b : Int) - a)), (13, .int .i64 pivot), (14, .int .i64 (hintI hint))])
    (fun g => [(⟨0, 0⟩, blkV 2 (g.map encS))]) (fun g => g.toArray = d2) ?_ ?_
  · repeat first | refine o_copy ?_ | refine nl ?_ | refine ct_seq ?_ | refine rg ?_ | refine ct_block ?_ | refine bq ?_ | refine o_iaddr ?_ | refine o_iaddrO ?_ | refine o_iaddrR ?_ | refine o_add ?_ | refine o_sub ?_ | refine o_cat ?_ | refine o_bin ?_ | refine o_loadsA ?_ | refine o_loadpA ?_ | refine o_not ?_ | refine o_pickt ?_ | refine o_pickf ?_ | refine o_extract ?_ | refine skF ?_ | refine skU ?_
    by_cases hdec : c.2 = .decreasing
    · rw [if_pos hdec] at e4 e5 e6
      refine cndt ?_ rfl (by rw [hdec]; rfl)
      have hrv := reverse_vc (n := n) ys1 a b hy1l (by omega) hbn hn hm
      repeat first | refine o_copy ?_ | refine nl ?_ | refine ct_seq ?_ | refine rg ?_ | refine ct_block ?_ | refine bq ?_ | refine cl (lent := [⟨0, 0⟩]) hrv ?_ | refine o_iaddr ?_ | refine o_iaddrO ?_ | refine o_iaddrR ?_ | refine o_add ?_ | refine o_sub ?_ | refine o_cat ?_ | refine o_bin ?_ | refine o_loadsA ?_ | refine o_loadpA ?_ | refine o_not ?_ | refine o_pickt ?_ | refine o_pickf ?_ | refine o_extract ?_ | refine skF ?_ | refine skU ?_
      refine ⟨d2.toList, by simp, goes (h1 := by
        refine ⟨rfl, rfl, rfl, rfl, rfl, rfl, rfl, rfl, congrArg (fun z => some (PV.int .i64 z)) (?_ : (b : Int) - 1 - ((c.1 : Int) - a) = (pivot : Nat)), ?_, trivial⟩
        · omega
        · rw [← e6]; rfl) (h2 := ?_)⟩
      refine ⟨?_, trivial⟩
      rw [← e4, ← hy1]; rfl
    · rw [if_neg hdec] at e4 e5 e6
      refine cndf (ct_skip ?_) rfl (by revert hdec; cases c.2 <;> intro h <;> first | rfl | exact absurd rfl h)
      subst e5 e6
      exact ⟨ys1, hy1.trans e4, goes⟩
  rintro ys2 hy2
  (try dsimp only)
  have hy2l : ys2.length = N := by have := congrArg Array.size hy2; simp at this; omega
  obtain ⟨⟨d3, fin⟩, e7⟩ : ∃ r : Array SpanL × Bool, (if (wb && wp && decide (hint = .increasing)) = true then Sort.partialInsertionSort ltS d2 a b else (d2, false)) = r := ⟨_, rfl⟩
  rw [pdq_step h12 hl e1 e2 e3 e4 e5 e6 e7] at hv
  have hs3 : d3.size = N := by
    have : (if (wb && wp && decide (hint = .increasing)) = true then Sort.partialInsertionSort ltS d2 a b else (d2, false)).1.size = N := by
      split
      · exact (partialIns_size ltS a b 5 (a + 1) d2).trans hs2
      · exact hs2
    rw [e7] at this; exact this
  clear e1 e2 e3 e4 e5 e6
  refine ct_mid (lvl := 1) (fun (g : List SpanL) => [(0, .own ⟨0, 0⟩ N 0 n), (1, .int .i64 a), (2, .int .i64 b), (3, .int .i64 l1), (4, .fn 47 []), (10, .bool wb), (11, .bool wp), (12, .int .i64 ((b : Int) - a)), (13, .int .i64 pivot)])
    (fun g => [(⟨0, 0⟩, blkV 2 (g.map encS))]) (fun g => g.toArray = d3 ∧ fin = false) ?_ ?_
  · by_cases hcnd : (wb && wp && decide (hint = .increasing)) = true
    · rw [if_pos hcnd] at e7
      simp only [Bool.and_eq_true, decide_eq_true_eq] at hcnd
      obtain ⟨⟨rfl, rfl⟩, rfl⟩ := hcnd
      have hpi := pins_vc (n := n) ys2 a b hy2l (by omega) hbn hn hm
      rw [hy2, e7] at hpi
      repeat first | refine o_copy ?_ | refine nl ?_ | refine ct_seq ?_ | refine rg ?_ | refine ct_block ?_ | refine bq ?_ | refine o_iaddr ?_ | refine o_iaddrO ?_ | refine o_iaddrR ?_ | refine o_add ?_ | refine o_sub ?_ | refine o_cat ?_ | refine o_bin ?_ | refine o_loadsA ?_ | refine o_loadpA ?_ | refine o_not ?_ | refine o_pickt ?_ | refine o_pickf ?_ | refine o_extract ?_ | refine skF ?_ | refine skU ?_
      refine cndt ?_
      repeat first | refine o_copy ?_ | refine nl ?_ | refine ct_seq ?_ | refine rg ?_ | refine ct_block ?_ | refine bq ?_ | refine cl (lent := [⟨0, 0⟩]) hpi ?_ | refine o_iaddr ?_ | refine o_iaddrO ?_ | refine o_iaddrR ?_ | refine o_add ?_ | refine o_sub ?_ | refine o_cat ?_ | refine o_bin ?_ | refine o_loadsA ?_ | refine o_loadpA ?_ | refine o_not ?_ | refine o_pickt ?_ | refine o_pickf ?_ | refine o_extract ?_ | refine skF ?_ | refine skU ?_
      refine cnd (fun hf => ?_) (fun hf => ct_skip ?_)
      · dsimp only at hf
        subst hf
        rw [if_pos rfl] at hv
        subst hv
        exact ct_ret ⟨.inr rfl, oL1 rfl⟩
      · exact ⟨d3.toList, ⟨by simp, hf⟩, goes⟩
    · rw [if_neg hcnd] at e7
      cases e7
      cases wb with
      | false =>
        repeat first | refine o_copy ?_ | refine nl ?_ | refine ct_seq ?_ | refine rg ?_ | refine ct_block ?_ | refine bq ?_ | refine o_iaddr ?_ | refine o_iaddrO ?_ | refine o_iaddrR ?_ | refine o_add ?_ | refine o_sub ?_ | refine o_cat ?_ | refine o_bin ?_ | refine o_loadsA ?_ | refine o_loadpA ?_ | refine o_not ?_ | refine o_pickt ?_ | refine o_pickf ?_ | refine o_extract ?_ | refine skF ?_ | refine skU ?_
        refine cndf (ct_skip ?_)
        exact ⟨ys2, ⟨hy2, rfl⟩, goes⟩
      | true =>
        cases wp with
        | false =>
          repeat first | refine o_copy ?_ | refine nl ?_ | refine ct_seq ?_ | refine rg ?_ | refine ct_block ?_ | refine bq ?_ | refine o_iaddr ?_ | refine o_iaddrO ?_ | refine o_iaddrR ?_ | refine o_add ?_ | refine o_sub ?_ | refine o_cat ?_ | refine o_bin ?_ | refine o_loadsA ?_ | refine o_loadpA ?_ | refine o_not ?_ | refine o_pickt ?_ | refine o_pickf ?_ | refine o_extract ?_ | refine skF ?_ | refine skU ?_
          refine cndf (ct_skip ?_)
          exact ⟨ys2, ⟨hy2, rfl⟩, goes⟩
        | true =>
          repeat first | refine o_copy ?_ | refine nl ?_ | refine ct_seq ?_ | refine rg ?_ | refine ct_block ?_ | refine bq ?_ | refine o_iaddr ?_ | refine o_iaddrO ?_ | refine o_iaddrR ?_ | refine o_add ?_ | refine o_sub ?_ | refine o_cat ?_ | refine o_bin ?_ | refine o_loadsA ?_ | refine o_loadpA ?_ | refine o_not ?_ | refine o_pickt ?_ | refine o_pickf ?_ | refine o_extract ?_ | refine skF ?_ | refine skU ?_
          refine cndf (ct_skip ?_) rfl (by revert hcnd; cases hint <;> intro h <;> first | rfl | exact absurd rfl h)
          exact ⟨ys2, ⟨hy2, rfl⟩, goes⟩
  rintro ys3 ⟨hy3, rfl⟩
  rw [if_neg (by decide)] at hv
  (try dsimp only)
  have hy3l : ys3.length = N := by have := congrArg Array.size hy3; simp at this; omega
  have hq := quo_nat (k := .i64) (n := b - a) (m := 8) (z := (b : Int) - a) (by omega) (by omega) (wrap64 (by omega) (by omega))
  clear e7 hs2 hs1 hy1l hy1 hy2l hy2 hcv hcb
  refine ct_mid (lvl := 1) (fun (_ : Unit) => [(0, .own ⟨0, 0⟩ N 0 n), (1, .int .i64 a), (2, .int .i64 b), (3, .int .i64 l1), (4, .fn 47 []), (10, .bool wb), (11, .bool wp), (12, .int .i64 ((b : Int) - a)), (13, .int .i64 pivot)])
    (fun _ => [(⟨0, 0⟩, blkV 2 (ys3.map encS))]) (fun _ => (decide (a > 0) && !ltS d3[a - 1]! d3[pivot]!) = false) ?_ ?_
  · have eqc : ∀ (h : (decide (a > 0) && !ltS d3[a - 1]! d3[pivot]!) = true), Sort.pdq ltS (Sort.partitionEqual ltS d3 a b pivot).2 (Sort.partitionEqual ltS d3 a b pivot).1 b l1 wb wp = tar := by
      intro h
      rw [if_pos h] at hv
      obtain ⟨g1, g2, g3⟩ := parteq_bd ltS (d := d3) hp1 hp2 (by omega)
      rw [if_pos ⟨g1, g2⟩] at hv
      exact hv
    by_cases ha : a > 0
    · have dA : decide ((a : Int) > 0) = true := decide_eq_true (by omega)
      obtain ⟨x, hx⟩ : ∃ x, ys3[a - 1]? = some x := ⟨_, List.getElem?_eq_getElem (by omega)⟩
      obtain ⟨y, hy⟩ : ∃ y, ys3[pivot]? = some y := ⟨_, List.getElem?_eq_getElem (by omega)⟩
      have hx' := els_at (k := 0 + ((a : Int) - 1).toNat) hx (by omega)
      have hy' := els_at (k := 0 + (pivot : Int).toNat) hy (by omega)
      have hxy : (decide (a > 0) && !ltS d3[a - 1]! d3[pivot]!) = !ltS x y := by rw [← hy3, gb hx, gb hy]; simp [ha]
      repeat first | refine o_copy ?_ | refine nl ?_ | refine ct_seq ?_ | refine rg ?_ | refine ct_block ?_ | refine bq ?_ | refine o_iaddrG ?_ | refine cv0 (cmpf_vc x y) ?_ | refine o_iaddr ?_ | refine o_iaddrO ?_ | refine o_iaddrR ?_ | refine o_add ?_ | refine o_sub ?_ | refine o_cat ?_ | refine o_bin ?_ | refine o_loadsA ?_ | refine o_loadpA ?_ | refine o_not ?_ | refine o_pickt ?_ | refine o_pickf ?_ | refine o_extract ?_ | refine skF ?_ | refine skU ?_
      refine cnd (fun hc => ?_) (fun hc => ct_skip ?_)
      · have hv2 := eqc (hxy.trans (by simpa [ltS] using hc))
        obtain ⟨g1, g2, g3⟩ := parteq_bd ltS (d := d3) hp1 hp2 (by omega)
        have hpe := parteq_vc (n := n) ys3 a b pivot hy3l hp1 hp2 hbn hn hm
        rw [hy3] at hpe
        generalize Sort.partitionEqual ltS d3 a b pivot = pe at hv2 g1 g2 g3 hpe
        repeat first | refine o_copy ?_ | refine nl ?_ | refine ct_seq ?_ | refine rg ?_ | refine ct_block ?_ | refine bq ?_ | refine cl (lent := [⟨0, 0⟩]) hpe ?_ | refine o_iaddr ?_ | refine o_iaddrO ?_ | refine o_iaddrR ?_ | refine o_add ?_ | refine o_sub ?_ | refine o_cat ?_ | refine o_bin ?_ | refine o_loadsA ?_ | refine o_loadpA ?_ | refine o_not ?_ | refine o_pickt ?_ | refine o_pickf ?_ | refine o_extract ?_ | refine skF ?_ | refine skU ?_
        refine ct_exit ?_
        exact ⟨(pe.1, b, l1, wb, wp, pe.2.toList), by simp only; omega, ⟨g2, hbn, hl1, by simp only; omega, by simp; omega, by simpa using hv2⟩, goes⟩
      · exact ⟨(), hxy.trans (by simpa [ltS] using hc), goes⟩
    · have dA : decide ((a : Int) > 0) = false := decide_eq_false (by omega)
      repeat first | refine o_copy ?_ | refine nl ?_ | refine ct_seq ?_ | refine rg ?_ | refine ct_block ?_ | refine bq ?_ | refine o_iaddr ?_ | refine o_iaddrO ?_ | refine o_iaddrR ?_ | refine o_add ?_ | refine o_sub ?_ | refine o_cat ?_ | refine o_bin ?_ | refine o_loadsA ?_ | refine o_loadpA ?_ | refine o_not ?_ | refine o_pickt ?_ | refine o_pickf ?_ | refine o_extract ?_ | refine skF ?_ | refine skU ?_
      refine cndf (ct_skip ?_)
      exact ⟨(), by simp [ha], goes⟩
  rintro _ hne
  (try dsimp only)
  rw [if_neg (by rw [hne]; decide)] at hv
  obtain ⟨g1, g2, g3, _⟩ := Sort.partition_holds ltS ltS_swo d3 a b pivot hp1 hp2 (by omega)
  have hpt := part_vc (n := n) ys3 a b pivot hy3l hp1 hp2 hbn hn hm
  rw [hy3] at hpt
  have gs := g3.1
  rw [if_pos ⟨g1, g2⟩] at hv
  generalize Sort.partition ltS d3 a b pivot = pt at hv g1 g2 gs hpt
  obtain ⟨mid, ap, d4⟩ := pt
  dsimp only at hv g1 g2 gs hpt
  repeat first | refine o_copy ?_ | refine nl ?_ | refine ct_seq ?_ | refine rg ?_ | refine ct_block ?_ | refine bq ?_ | refine cl (lent := [⟨0, 0⟩]) hpt ?_ | refine o_binE hq ?_ | refine o_iaddr ?_ | refine o_iaddrO ?_ | refine o_iaddrR ?_ | refine o_add ?_ | refine o_sub ?_ | refine o_cat ?_ | refine o_bin ?_ | refine o_loadsA ?_ | refine o_loadpA ?_ | refine o_not ?_ | refine o_pickt ?_ | refine o_pickf ?_ | refine o_extract ?_ | refine skF ?_ | refine skU ?_
  by_cases hlt : mid - a < b - mid
  · rw [if_pos hlt] at hv
    refine cndt ?_ rfl (decide_eq_true (by omega))
    have hrec := ih (mid - a) (by omega) d4.toList a mid l1 rfl (by simp; omega) g1 (by omega) hl1
    have hps : (Sort.pdq ltS d4 a mid l1 true true).size = N := by
      rw [pdq_size _ _ _ _ _ _ _ rfl]; omega
    rw [Array.toArray_toList] at hrec
    repeat first | refine o_copy ?_ | refine nl ?_ | refine ct_seq ?_ | refine rg ?_ | refine ct_block ?_ | refine bq ?_ | refine cl (lent := [⟨0, 0⟩]) hrec ?_ | refine o_iaddr ?_ | refine o_iaddrO ?_ | refine o_iaddrR ?_ | refine o_add ?_ | refine o_sub ?_ | refine o_cat ?_ | refine o_bin ?_ | refine o_loadsA ?_ | refine o_loadpA ?_ | refine o_not ?_ | refine o_pickt ?_ | refine o_pickf ?_ | refine o_extract ?_ | refine skF ?_ | refine skU ?_
    refine agn (mid + 1, b, l1, decide (mid - a ≥ (b - a) / 8), ap, (Sort.pdq ltS d4 a mid l1 true true).toList) ⟨by simp only; omega, hbn, hl1, by simp only; omega, by simpa using hps, by simpa using hv⟩ (goes (h1 := ?_))
    refine ⟨rfl, rfl, rfl, rfl, rfl, congrArg (fun z => some (PV.bool z)) (decide_eq_decide.2 ?_), rfl, trivial⟩
    omega
  · rw [if_neg hlt] at hv
    refine cndf ?_ rfl (decide_eq_false (by omega))
    have hrec := ih (b - (mid + 1)) (by omega) d4.toList (mid + 1) b l1 rfl (by simp; omega) (by omega) hbn hl1
    have hps : (Sort.pdq ltS d4 (mid + 1) b l1 true true).size = N := by
      rw [pdq_size _ _ _ _ _ _ _ rfl]; omega
    rw [Array.toArray_toList] at hrec
    repeat first | refine o_copy ?_ | refine nl ?_ | refine ct_seq ?_ | refine rg ?_ | refine ct_block ?_ | refine bq ?_ | refine cl (lent := [⟨0, 0⟩]) hrec ?_ | refine o_iaddr ?_ | refine o_iaddrO ?_ | refine o_iaddrR ?_ | refine o_add ?_ | refine o_sub ?_ | refine o_cat ?_ | refine o_bin ?_ | refine o_loadsA ?_ | refine o_loadpA ?_ | refine o_not ?_ | refine o_pickt ?_ | refine o_pickf ?_ | refine o_extract ?_ | refine skF ?_ | refine skU ?_
    refine agn (a, mid, l1, decide (b - mid ≥ (b - a) / 8), ap, (Sort.pdq ltS d4 (mid + 1) b l1 true true).toList) ⟨g1, by simp only; omega, hl1, by simp only; omega, by simpa using hps, by simpa using hv⟩ (goes (h1 := ?_))
    refine ⟨rfl, rfl, rfl, rfl, rfl, congrArg (fun z => some (PV.bool z)) (decide_eq_decide.2 ?_), rfl, trivial⟩
    omega
end Go.Proofs
open Go.V Go.Pu
set_option linter.unusedVariables false
set_option linter.unusedSimpArgs false
set_option maxRecDepth 20000
namespace Go.Proofs
/-- slices.SortFunc[[]downspout/api.Span,downspout/api.Span] -/
def vc46 : VCode :=
 (.seq
 (.region 0 false [
 ⟨(some 5), .copy (.t 0), none, 0, []⟩,
 ⟨(some 6), .len (.t 5), none, 8, [0]⟩,
 ⟨(some 4), .copy (.t 6), none, 16, [1, 0]⟩])
 (.region 1 false [
 ⟨(some 7), .copy (.t 0), none, 8192, []⟩,
 ⟨(some 8), .copy (.t 4), none, 8200, []⟩,
 ⟨(some 9), .copy (.t 4), none, 8208, []⟩,
 ⟨(some 10), .conv .u64 (.t 9), none, 8216, [2]⟩,
 ⟨(some 11), .call (.c (.fn 56 [])) [(.t 10)], none, 8224, [3, 2]⟩,
 ⟨(some 12), .copy (.t 1), none, 8232, []⟩,
 ⟨(some 13), .call (.c (.fn 55 [])) [(.t 7), (.c (.int .i64 0)), (.t 8), (.t 11), (.t 12)], none, 8240, [0, 1, 4, 3, 2, 5]⟩]))
theorem vf46 : VF Try.prog 46 = some (14, vc46, []) := by kernel_rfl
/-! SortFunc -/
theorem sort_vc {N n : Nat} (xs : List SpanL) (hN : xs.length = N) (hn : n ≤ N) (hm : N ≤ 60000) :
    VC Try.prog 46 [.own ⟨0, 0⟩ N 0 n, .fn 47 []] [blkV 2 (xs.map encS)] (.tup []) (srt (Sort.pdq ltS xs.toArray 0 n (Sort.bitsLen n) true true)) := by
  refine vc_of vf46 ?_ (Nat.le_of_ble_eq_true rfl) (by intro vs h; cases h; simp)
  have hw := wrapU64 (n := n) (by omega)
  have hb := bits_le (n := n) (by omega)
  have hc := pdq_vc (n := n) hn hm n xs 0 n (Sort.bitsLen n) rfl hN (Nat.zero_le _) (Nat.le_refl _) (by omega)
  repeat first | refine o_copy ?_ | refine nl ?_ | refine ct_seq ?_ | refine rg ?_ | refine ct_block ?_ | refine bq ?_ | refine o_convE ?_ | refine cv0 (len_vc (n := n) (by omega)) ?_ | refine cl (lent := [⟨0, 0⟩]) hc ?_ | refine o_lenq ?_ | refine o_len ?_
  exact ⟨.inl rfl, oL1 rfl⟩
end Go.Proofs
open Go.V Go.Pu
set_option linter.unusedVariables false
set_option linter.unusedSimpArgs false
set_option maxRecDepth 20000
namespace Go.Proofs
/-- slices.Clone[[]downspout/api.Span,downspout/api.Span] -/
def vc45 : VCode :=
 (.seq
 (.region 0 false [
 ⟨(some 2), .copy (.c .nils), none, 0, []⟩])
 (.seq
 (.seq
 (.region 1 false [
 ⟨(some 3), .copy (.t 0), none, 8192, []⟩,
 ⟨(some 4), .isnil false (.t 3), none, 8200, [0]⟩])
 (.cond (.t 4)
 (.seq
 (.region 2 false [
 ⟨(some 2), .copy (.c .nils), none, 16384, []⟩])
 .ret)
 .skip))
 (.seq
 (.region 3 false [
 ⟨(some 5), .bslice 2 [(.str []), (.str [])] 0 [], none, 24576, []⟩,
 ⟨(some 6), .copy (.t 0), none, 24584, []⟩,
 ⟨(some 7), .append 2 32 [(.str []), (.str [])] (.t 5) (.t 6), none, 24592, [0, 1]⟩,
 ⟨(some 2), .copy (.t 7), none, 24600, [2, 0, 1]⟩])
 .ret)))
theorem vf45 : VF Try.prog 45 = some (8, vc45, [.tmp 2]) := by kernel_rfl
/-- slices.IndexFunc[[]downspout/api.Span,downspout/api.Span] -/
def vc54 : VCode :=
 (.seq
 (.region 0 false [
 ⟨(some 4), .copy (.c (.int .i64 0)), none, 0, []⟩])
 (.seq
 (.seq
 (.region 1 false [
 ⟨(some 6), .copy (.t 0), none, 8192, []⟩,
 ⟨(some 7), .len (.t 6), none, 8200, [0]⟩,
 ⟨(some 8), .copy (.c (.int .i64 0)), none, 8208, []⟩])
 (.block 0
 (.loop
 (.seq
 (.region 2 false [
 ⟨(some 9), .bin .lss (.t 8) (.t 7), none, 16384, []⟩])
 (.seq
 (.cond (.t 9)
 .skip
 (.exit 0))
 (.seq
 (.block 1
 (.seq
 (.region 3 false [
 ⟨(some 10), .copy (.t 8), none, 24576, []⟩,
 ⟨(some 5), .copy (.t 10), none, 24584, [0]⟩])
 (.seq
 (.region 4 false [
 ⟨(some 11), .copy (.t 1), none, 32768, []⟩,
 ⟨(some 12), .copy (.t 0), none, 32776, []⟩,
 ⟨(some 13), .copy (.t 5), none, 32784, []⟩,
 ⟨(some 14), .iaddr 2 (.t 12) (.t 13), none, 32792, [1, 2]⟩,
 ⟨(some 15), .load true 2 (.t 14), none, 32800, [3, 1, 2]⟩,
 ⟨(some 16), .call (.t 11) [(.t 15)], none, 32808, [0, 4, 3, 1, 2]⟩])
 (.cond (.t 16)
 (.seq
 (.region 5 false [
 ⟨(some 17), .copy (.t 5), none, 40960, []⟩,
 ⟨(some 4), .copy (.t 17), none, 40968, [0]⟩])
 .ret)
 .skip))))
 (.region 6 false [
 ⟨(some 18), .bin .add (.t 8) (.c (.int .i64 1)), none, 49152, []⟩,
 ⟨(some 8), .copy (.t 18), none, 49160, [0]⟩])))))))
 (.seq
 (.region 7 false [
 ⟨(some 4), .copy (.c (.int .i64 (-1))), none, 57344, []⟩])
 .ret)))
theorem vf54 : VF Try.prog 54 = some (19, vc54, [.tmp 4]) := by kernel_rfl
/-- slices.DeleteFunc[[]downspout/api.Span,downspout/api.Span] -/
def vc44 : VCode :=
 (.seq
 (.region 0 false [
 ⟨(some 4), .copy (.c .nils), none, 0, []⟩])
 (.seq
 (.region 1 false [
 ⟨(some 8), .copy (.t 0), none, 8192, []⟩,
 ⟨(some 9), .copy (.t 1), none, 8200, []⟩,
 ⟨(some 10), .call (.c (.fn 54 [])) [(.t 8), (.t 9)], none, 8208, [0, 1]⟩,
 ⟨(some 5), .copy (.t 10), none, 8216, [2, 0, 1]⟩])
 (.seq
 (.seq
 (.region 2 false [
 ⟨(some 11), .copy (.t 5), none, 16384, []⟩,
 ⟨(some 12), .bin .eql (.t 11) (.c (.int .i64 (-1))), none, 16392, [0]⟩])
 (.cond (.t 12)
 (.seq
 (.region 3 false [
 ⟨(some 13), .copy (.t 0), none, 24576, []⟩,
 ⟨(some 4), .copy (.t 13), none, 24584, [0]⟩])
 .ret)
 .skip))
 (.seq
 (.seq
 (.region 4 false [
 ⟨(some 14), .copy (.t 5), none, 32768, []⟩,
 ⟨(some 15), .bin .add (.t 14) (.c (.int .i64 1)), none, 32776, [0]⟩,
 ⟨(some 6), .copy (.t 15), none, 32784, [1, 0]⟩])
 (.block 0
 (.loop
 (.seq
 (.seq
 (.region 5 false [
 ⟨(some 16), .copy (.t 6), none, 40960, []⟩,
 ⟨(some 17), .copy (.t 0), none, 40968, []⟩,
 ⟨(some 18), .len (.t 17), none, 40976, [1]⟩,
 ⟨(some 19), .bin .lss (.t 16) (.t 18), none, 40984, [0, 2, 1]⟩])
 (.cond (.t 19)
 .skip
 (.exit 0)))
 (.seq
 (.block 1
 (.seq
 (.region 7 false [
 ⟨(some 22), .copy (.t 0), none, 57344, []⟩,
 ⟨(some 23), .copy (.t 6), none, 57352, []⟩,
 ⟨(some 24), .iaddr 2 (.t 22) (.t 23), none, 57360, [0, 1]⟩,
 ⟨(some 25), .load true 2 (.t 24), none, 57368, [2, 0, 1]⟩,
 ⟨(some 7), .alloc [(.str []), (.str [])], none, 57376, []⟩,
 ⟨none, .store 2 (.t 7) (.t 25), none, 57384, [4, 3, 2, 0, 1]⟩])
 (.seq
 (.region 8 false [
 ⟨(some 26), .copy (.t 1), none, 65536, []⟩,
 ⟨(some 27), .load true 2 (.t 7), none, 65544, []⟩,
 ⟨(some 28), .call (.t 26) [(.t 27)], none, 65552, [0, 1]⟩,
 ⟨(some 29), .not (.t 28), none, 65560, [2, 0, 1]⟩])
 (.cond (.t 29)
 (.seq
 (.region 9 false [
 ⟨(some 30), .copy (.t 0), none, 73728, []⟩,
 ⟨(some 31), .copy (.t 5), none, 73736, []⟩,
 ⟨(some 32), .load true 2 (.t 7), none, 73744, []⟩,
 ⟨(some 33), .iaddr 2 (.t 30) (.t 31), none, 73752, [0, 1, 2]⟩,
 ⟨none, .store 2 (.t 33) (.t 32), none, 73760, [3, 0, 1, 2]⟩])
 (.region 10 false [
 ⟨(some 34), .copy (.t 5), none, 81920, []⟩,
 ⟨(some 35), .bin .add (.t 34) (.c (.int .i64 1)), none, 81928, [0]⟩,
 ⟨(some 5), .copy (.t 35), none, 81936, [1, 0]⟩]))
 .skip))))
 (.region 6 false [
 ⟨(some 20), .copy (.t 6), none, 49152, []⟩,
 ⟨(some 21), .bin .add (.t 20) (.c (.int .i64 1)), none, 49160, [0]⟩,
 ⟨(some 6), .copy (.t 21), none, 49168, [1, 0]⟩]))))))
 (.seq
 (.region 11 false [
 ⟨(some 36), .copy (.t 0), none, 90112, []⟩,
 ⟨(some 37), .copy (.t 5), none, 90120, []⟩,
 ⟨(some 38), .slsl 2 (.t 36) (some (.t 37)) none none, none, 90128, [0, 1]⟩,
 ⟨none, .clear 2 [(.str []), (.str [])] (.t 38), none, 90136, [2, 0, 1]⟩])
 (.seq
 (.region 12 false [
 ⟨(some 39), .copy (.t 0), none, 98304, []⟩,
 ⟨(some 40), .copy (.t 5), none, 98312, []⟩,
 ⟨(some 41), .slsl 2 (.t 39) none (some (.t 40)) none, none, 98320, [0, 1]⟩,
 ⟨(some 4), .copy (.t 41), none, 98328, [2, 0, 1]⟩])
 .ret))))))
theorem vf44 : VF Try.prog 44 = some (42, vc44, [.tmp 4]) := by kernel_rfl
/-! Clone, IndexFunc, DeleteFunc -/
theorem clone_vc {q : PV} {xs : List SpanL} (hq : Sl q (xs.map encS)) (hl : xs.length ≤ 60000) : VC Try.prog 45 [q] [] (ownV ⟨0, 0⟩ (xs.map encS)) [blkV 2 (xs.map encS)] := by
  refine vc_of vf45 ?_ (Nat.le_of_ble_eq_true rfl) (by intro vs h; cases h)
  have nilc : ∀ (h : xs.map encS = []), xs = [] := fun h => List.map_eq_nil_iff.1 h
  rcases hq with ⟨rfl, h⟩ | ⟨rfl, h⟩ | ⟨ex, rfl⟩
  · have := nilc h
    subst this
    repeat first | refine o_copy ?_ | refine nl ?_ | refine ct_seq ?_ | refine rg ?_ | refine ct_block ?_ | refine bq ?_ | refine o_bslice ?_ | refine o_isnil ?_
    refine cndt ?_
    repeat first | refine o_copy ?_ | refine nl ?_ | refine ct_seq ?_ | refine rg ?_ | refine ct_block ?_ | refine bq ?_ | refine o_bslice ?_ | refine o_isnil ?_
    refine ct_imp (Imp.nil (t := 2) (b := ⟨1, 900000⟩) (esz := 2) rfl rfl (by decide)) ?_
    exact ct_ret ⟨.inr rfl, oOwn rfl⟩
  · have := nilc h
    subst this
    repeat first | refine o_copy ?_ | refine nl ?_ | refine ct_seq ?_ | refine rg ?_ | refine ct_block ?_ | refine bq ?_ | refine o_bslice ?_ | refine o_isnil ?_
    refine cndf (ct_skip ?_)
    repeat first | refine o_copy ?_ | refine nl ?_ | refine ct_seq ?_ | refine rg ?_ | refine ct_block ?_ | refine bq ?_ | refine o_v (vaps encS [] []) ?_ | refine o_bslice ?_ | refine o_isnil ?_
    exact ct_ret ⟨.inr rfl, oOwn rfl⟩
  · cases xs with
    | nil =>
      refine ct_split (t := 0) (ex := ex) (tm := entry 0 [.sh ex []]) rfl ?_ ?_
      · repeat first | refine o_copy ?_ | refine nl ?_ | refine ct_seq ?_ | refine rg ?_ | refine ct_block ?_ | refine bq ?_ | refine o_bslice ?_ | refine o_isnil ?_
        refine cndt ?_
        repeat first | refine o_copy ?_ | refine nl ?_ | refine ct_seq ?_ | refine rg ?_ | refine ct_block ?_ | refine bq ?_ | refine o_bslice ?_ | refine o_isnil ?_
        refine ct_imp (Imp.nil (t := 2) (b := ⟨1, 900000⟩) (esz := 2) rfl rfl (by decide)) ?_
        exact ct_ret ⟨.inr rfl, oOwn rfl⟩
      · repeat first | refine o_copy ?_ | refine nl ?_ | refine ct_seq ?_ | refine rg ?_ | refine ct_block ?_ | refine bq ?_ | refine o_bslice ?_ | refine o_isnil ?_
        refine cndf (ct_skip ?_)
        repeat first | refine o_copy ?_ | refine nl ?_ | refine ct_seq ?_ | refine rg ?_ | refine ct_block ?_ | refine bq ?_ | refine o_v (vaps encS [] []) ?_ | refine o_bslice ?_ | refine o_isnil ?_
        exact ct_ret ⟨.inr rfl, oOwn rfl⟩
    | cons x xs =>
      have hl2 : xs.length + 1 ≤ 60000 := hl
      repeat first | refine o_copy ?_ | refine nl ?_ | refine ct_seq ?_ | refine rg ?_ | refine ct_block ?_ | refine bq ?_ | refine o_bslice ?_ | refine o_isnil ?_
      refine cndf (ct_skip ?_)
      repeat first | refine o_copy ?_ | refine nl ?_ | refine ct_seq ?_ | refine rg ?_ | refine ct_block ?_ | refine bq ?_ | refine o_v (vaps encS [] (x :: xs)) ?_ | refine o_bslice ?_ | refine o_isnil ?_
      exact ct_ret ⟨.inr rfl, oOwn rfl⟩
/-- The place of the first empty span, or -1. -/
def idxE (l : List SpanL) : Int := if l.any emptyL = true then (l.findIdx emptyL : Nat) else -1
theorem idx_vc {q : PV} {xs : List SpanL} (hq : Sl q (xs.map encS)) (hl : xs.length ≤ 60000) : VC Try.prog 54 [q, .fn 23 []] [] (.int .i64 (idxE xs)) [] := by
  refine vc_of vf54 ?_ (Nat.le_of_ble_eq_true rfl) (by intro vs h; cases h)
  repeat first | refine o_copy ?_ | refine nl ?_ | refine ct_seq ?_ | refine rg ?_ | refine ct_block ?_ | refine bq ?_ | refine o_iaddr ?_ | refine o_iaddrO ?_ | refine o_iaddrR ?_ | refine o_add ?_ | refine o_cat ?_ | refine o_bin ?_ | refine o_lenq ?_ | refine o_len ?_ | refine o_loadsA ?_ | refine o_loadpA ?_
  refine ct_loopG (fun (g : Nat) => [(0, q), (1, .fn 23 []), (7, .int .i64 (xs.map encS).length), (8, .int .i64 g)]) (fun g => []) (fun g => xs.length - g)
    (fun g => g ≤ xs.length ∧ (xs.take g).any emptyL = false) 0 goes ⟨Nat.zero_le _, rfl⟩ ?_
  rintro i ⟨hi, hv⟩
  (try dsimp only)
  repeat first | refine o_copy ?_ | refine nl ?_ | refine ct_seq ?_ | refine rg ?_ | refine ct_block ?_ | refine bq ?_ | refine o_iaddr ?_ | refine o_iaddrO ?_ | refine o_iaddrR ?_ | refine o_add ?_ | refine o_cat ?_ | refine o_bin ?_ | refine o_lenq ?_ | refine o_len ?_ | refine o_loadsA ?_ | refine o_loadpA ?_
  refine cnd (fun h => ct_skip ?_) (fun h => ct_exit ?_)
  · have hlt : i < xs.length := by have h' := of_decide_eq_true h; simp only [List.length_map] at h'; omega
    obtain ⟨x, hx⟩ : ∃ x, xs[i]? = some x := ⟨_, List.getElem?_eq_getElem hlt⟩
    have hxe := gm (enc := encS) (n := (i : Int)) hx (by omega)
    repeat first | refine o_copy ?_ | refine nl ?_ | refine ct_seq ?_ | refine rg ?_ | refine ct_block ?_ | refine bq ?_ | refine cv0 (empty_vc x) ?_ | refine o_iaddr ?_ | refine o_iaddrO ?_ | refine o_iaddrR ?_ | refine o_add ?_ | refine o_cat ?_ | refine o_bin ?_ | refine o_lenq ?_ | refine o_len ?_ | refine o_loadsA ?_ | refine o_loadpA ?_
    refine cnd (fun h2 => ?_) (fun h2 => ct_skip ?_)
    · repeat first | refine o_copy ?_ | refine nl ?_ | refine ct_seq ?_ | refine rg ?_ | refine ct_block ?_ | refine bq ?_ | refine o_iaddr ?_ | refine o_iaddrO ?_ | refine o_iaddrR ?_ | refine o_add ?_ | refine o_cat ?_ | refine o_bin ?_ | refine o_lenq ?_ | refine o_len ?_ | refine o_loadsA ?_ | refine o_loadpA ?_
      refine ct_ret ⟨.inr rfl, oI ?_⟩
      have hxs : xs = xs.take i ++ x :: xs.drop (i + 1) := by rw [← drop_get hx, List.take_append_drop]
      have ha : xs.any emptyL = true := by rw [hxs]; simp [h2]
      unfold idxE
      rw [if_pos ha]
      have : xs.findIdx emptyL = i := by
        rw [hxs, List.findIdx_append, if_neg]
        · simp [List.findIdx_cons, h2]; omega
        · have h3 : ∀ y ∈ xs.take i, emptyL y = false := by simpa using hv
          intro h4
          have := List.findIdx_getElem (w := h4)
          rw [h3 _ (List.getElem_mem _)] at this
          cases this
      rw [this]
    · repeat first | refine o_copy ?_ | refine nl ?_ | refine ct_seq ?_ | refine rg ?_ | refine ct_block ?_ | refine bq ?_ | refine o_iaddr ?_ | refine o_iaddrO ?_ | refine o_iaddrR ?_ | refine o_add ?_ | refine o_cat ?_ | refine o_bin ?_ | refine o_lenq ?_ | refine o_len ?_ | refine o_loadsA ?_ | refine o_loadpA ?_
      refine agn (i + 1) ⟨by omega, ?_⟩ goes
      rw [List.take_add_one, hx]
      simp [hv, h2]
  · have hge : i = xs.length := by have h' := of_decide_eq_false h; simp only [List.length_map] at h'; omega
    subst hge
    rw [List.take_length] at hv
    repeat first | refine o_copy ?_ | refine nl ?_ | refine ct_seq ?_ | refine rg ?_ | refine ct_block ?_ | refine bq ?_ | refine o_iaddr ?_ | refine o_iaddrO ?_ | refine o_iaddrR ?_ | refine o_add ?_ | refine o_cat ?_ | refine o_bin ?_ | refine o_lenq ?_ | refine o_len ?_ | refine o_loadsA ?_ | refine o_loadpA ?_
    refine ct_ret ⟨.inr rfl, oI ?_⟩
    unfold idxE
    rw [if_neg (by simp [hv])]
theorem idx_some {xs : List SpanL} (h : xs.any emptyL = true) : xs.findIdx emptyL < xs.length ∧ (xs.take (xs.findIdx emptyL + 1)).filter ne = xs.take (xs.findIdx emptyL) := by
  have hlt : xs.findIdx emptyL < xs.length := List.findIdx_lt_length_of_exists (by simpa using h)
  refine ⟨hlt, ?_⟩
  have hx := List.findIdx_getElem (w := hlt)
  rw [List.take_add_one, List.getElem?_eq_getElem hlt]
  simp only [Option.toList, List.filter_append]
  have h1 : (xs.take (xs.findIdx emptyL)).filter ne = xs.take (xs.findIdx emptyL) := by
    refine List.filter_eq_self.2 fun y hy => ?_
    obtain ⟨k, hk, rfl⟩ := List.mem_iff_getElem.1 hy
    rw [List.getElem_take]
    have hk2 : k < xs.findIdx emptyL := by have h5 := hk; rw [List.length_take] at h5; omega
    have := List.not_of_lt_findIdx hk2
    simpa [ne] using this
  rw [h1]
  simp [ne, hx]
set_option maxHeartbeats 1000000 in
theorem del_vc {N : Nat} (xs : List SpanL) (hN : xs.length = N) (hm : N ≤ 60000) :
    VC Try.prog 44 [.own ⟨0, 0⟩ N 0 N, .fn 23 []] [blkV 2 (xs.map encS)] (.own ⟨0, 0⟩ N 0 (xs.filter ne).length) [blkV 2 ((delL xs).map encS)] := by
  refine vc_of vf44 ?_ (Nat.le_of_ble_eq_true rfl) (by intro vs h; cases h)
  have hidx := idx_vc (q := .sh false (xs.map encS)) (xs := xs) Sl.sh (by omega)
  by_cases hany : xs.any emptyL = true
  case neg =>
    have hi : idxE xs = -1 := by unfold idxE; rw [if_neg hany]
    have hf : xs.filter ne = xs := List.filter_eq_self.2 fun y hy => by
      have : ∀ y ∈ xs, emptyL y = false := by simpa using hany
      simp [ne, this y hy]
    rw [hi] at hidx
    repeat first | refine o_copy ?_ | refine nl ?_ | refine ct_seq ?_ | refine rg ?_ | refine ct_block ?_ | refine bq ?_ | refine cv0 hidx ?_ | refine o_iaddr ?_ | refine o_iaddrO ?_ | refine o_iaddrR ?_ | refine o_add ?_ | refine o_cat ?_ | refine o_bin ?_ | refine o_lenq ?_ | refine o_len ?_ | refine o_loadsA ?_ | refine o_loadpA ?_ | refine o_alloc ?_ | refine o_store ?_ | refine o_not ?_
    refine cndt ?_
    repeat first | refine o_copy ?_ | refine nl ?_ | refine ct_seq ?_ | refine rg ?_ | refine ct_block ?_ | refine bq ?_ | refine o_iaddr ?_ | refine o_iaddrO ?_ | refine o_iaddrR ?_ | refine o_add ?_ | refine o_cat ?_ | refine o_bin ?_ | refine o_lenq ?_ | refine o_len ?_ | refine o_loadsA ?_ | refine o_loadpA ?_ | refine o_alloc ?_ | refine o_store ?_ | refine o_not ?_
    have hd : delL xs = xs := by unfold delL; rw [hf]; simp
    rw [hf, hd, hN]
    exact ct_ret ⟨.inr rfl, oLO rfl⟩
  obtain ⟨hlt, hfl⟩ := idx_some hany
  have hi : idxE xs = (xs.findIdx emptyL : Nat) := by unfold idxE; rw [if_pos hany]
  rw [hi] at hidx
  generalize xs.findIdx emptyL = i0 at *
  repeat first | refine o_copy ?_ | refine nl ?_ | refine ct_seq ?_ | refine rg ?_ | refine ct_block ?_ | refine bq ?_ | refine cv0 hidx ?_ | refine o_iaddr ?_ | refine o_iaddrO ?_ | refine o_iaddrR ?_ | refine o_add ?_ | refine o_cat ?_ | refine o_bin ?_ | refine o_lenq ?_ | refine o_len ?_ | refine o_loadsA ?_ | refine o_loadpA ?_ | refine o_alloc ?_ | refine o_store ?_ | refine o_not ?_
  refine cndf (ct_skip ?_) rfl (by simp)
  repeat first | refine o_copy ?_ | refine nl ?_ | refine ct_seq ?_ | refine rg ?_ | refine ct_block ?_ | refine bq ?_ | refine o_iaddr ?_ | refine o_iaddrO ?_ | refine o_iaddrR ?_ | refine o_add ?_ | refine o_cat ?_ | refine o_bin ?_ | refine o_lenq ?_ | refine o_len ?_ | refine o_loadsA ?_ | refine o_loadpA ?_ | refine o_alloc ?_ | refine o_store ?_ | refine o_not ?_
  refine ct_loopG (fun (g : Nat × Nat × List SpanL) => [(0, .own ⟨0, 0⟩ N 0 N), (1, .fn 23 []), (5, .int .i64 g.1), (6, .int .i64 (g.2.1 : Nat))])
    (fun g => [(⟨0, 0⟩, blkV 2 (g.2.2.map encS))]) (fun g => N - g.2.1)
    (fun g => g.1 < g.2.1 ∧ g.2.1 ≤ N ∧ g.2.2.length = N ∧ g.2.2.take g.1 = (xs.take g.2.1).filter ne ∧ g.2.2.drop g.2.1 = xs.drop g.2.1) (i0, i0 + 1, xs) goes ⟨by simp, by simp only; omega, hN, hfl.symm, rfl⟩ ?_
  rintro ⟨i, j, zs⟩ ⟨hij, hjN, hzl, h1, h2⟩
  dsimp only at hij hjN hzl h1 h2 ⊢
  have hil : i = ((xs.take j).filter ne).length := by rw [← h1, List.length_take]; omega
  repeat first | refine o_copy ?_ | refine nl ?_ | refine ct_seq ?_ | refine rg ?_ | refine ct_block ?_ | refine bq ?_ | refine o_iaddr ?_ | refine o_iaddrO ?_ | refine o_iaddrR ?_ | refine o_add ?_ | refine o_cat ?_ | refine o_bin ?_ | refine o_lenq ?_ | refine o_len ?_ | refine o_loadsA ?_ | refine o_loadpA ?_ | refine o_alloc ?_ | refine o_store ?_ | refine o_not ?_
  refine cnd (fun h => ct_skip ?_) (fun h => ct_exit ?_)
  · have hlt : j < N := by have h' := of_decide_eq_true h; omega
    obtain ⟨x, hx⟩ : ∃ x, xs[j]? = some x := ⟨_, List.getElem?_eq_getElem (by omega)⟩
    have hzx : zs[j]? = some x := by have h3 := congrArg (fun l => l[0]?) h2; simpa [hx] using h3
    have hze := els_at (k := 0 + (j : Int).toNat) hzx (by omega)
    have hk1 : 0 + (i : Int).toNat = i := by omega
    have htk : (xs.take (j + 1)).filter ne = (xs.take j).filter ne ++ (if ne x = true then [x] else []) := by
      rw [List.take_add_one, hx, Option.toList, List.filter_append]
      by_cases hn : ne x = true <;> simp [hn]
    have hdr : zs.drop (j + 1) = xs.drop (j + 1) := by rw [← List.drop_drop, ← List.drop_drop, h2]
    repeat first | refine o_copy ?_ | refine nl ?_ | refine ct_seq ?_ | refine rg ?_ | refine ct_block ?_ | refine bq ?_ | refine o_iaddrG ?_ | refine cv0 (empty_vc x) ?_ | refine o_iaddr ?_ | refine o_iaddrO ?_ | refine o_iaddrR ?_ | refine o_add ?_ | refine o_cat ?_ | refine o_bin ?_ | refine o_lenq ?_ | refine o_len ?_ | refine o_loadsA ?_ | refine o_loadpA ?_ | refine o_alloc ?_ | refine o_store ?_ | refine o_not ?_
    refine cnd (fun hc => ?_) (fun hc => ct_skip ?_)
    · rw [if_pos (show ne x = true from hc)] at htk
      repeat first | refine o_copy ?_ | refine nl ?_ | refine ct_seq ?_ | refine rg ?_ | refine ct_block ?_ | refine bq ?_ | refine o_iaddrG ?_ | refine o_v (vst encS x) ?_ | refine o_iaddr ?_ | refine o_iaddrO ?_ | refine o_iaddrR ?_ | refine o_add ?_ | refine o_cat ?_ | refine o_bin ?_ | refine o_lenq ?_ | refine o_len ?_ | refine o_loadsA ?_ | refine o_loadpA ?_ | refine o_alloc ?_ | refine o_store ?_ | refine o_not ?_
      refine agn (i + 1, j + 1, zs.set (0 + (i : Int).toNat) x) ⟨by simp only; omega, by simp only; omega, by simpa only [List.length_set] using hzl, ?_, ?_⟩ goes
      · simp only [hk1]
        rw [htk, ← h1, List.take_add_one, List.take_set, List.set_eq_of_length_le (by simp; omega)]
        simp [show i < zs.length by omega]
      · simp only [hk1]
        rw [List.drop_set, if_pos (by omega)]
        exact hdr
    · rw [if_neg (show ¬ ne x = true by simpa [ne] using hc)] at htk
      repeat first | refine o_copy ?_ | refine nl ?_ | refine ct_seq ?_ | refine rg ?_ | refine ct_block ?_ | refine bq ?_ | refine o_iaddr ?_ | refine o_iaddrO ?_ | refine o_iaddrR ?_ | refine o_add ?_ | refine o_cat ?_ | refine o_bin ?_ | refine o_lenq ?_ | refine o_len ?_ | refine o_loadsA ?_ | refine o_loadpA ?_ | refine o_alloc ?_ | refine o_store ?_ | refine o_not ?_
      exact agn (i, j + 1, zs) ⟨by simp only; omega, by simp only; omega, hzl, by simp only; rw [htk, h1]; simp, hdr⟩ goes
  · have hj : j = N := by have h' := of_decide_eq_false h; omega
    subst hj
    have htN : xs.take j = xs := List.take_of_length_le (by omega)
    rw [htN] at h1 hil
    repeat first | refine o_copy ?_ | refine nl ?_ | refine ct_seq ?_ | refine rg ?_ | refine ct_block ?_ | refine bq ?_ | refine o_slslO ?_ | refine o_v (vclr encS (⟨[], []⟩ : SpanL)) ?_ | refine o_iaddr ?_ | refine o_iaddrO ?_ | refine o_iaddrR ?_ | refine o_add ?_ | refine o_cat ?_ | refine o_bin ?_ | refine o_lenq ?_ | refine o_len ?_ | refine o_loadsA ?_ | refine o_loadpA ?_ | refine o_alloc ?_ | refine o_store ?_ | refine o_not ?_
    refine o_slslO ?_ (hc0 := by simp; omega)
    repeat first | refine o_copy ?_ | refine nl ?_ | refine ct_seq ?_ | refine rg ?_ | refine ct_block ?_ | refine bq ?_ | refine o_iaddr ?_ | refine o_iaddrO ?_ | refine o_iaddrR ?_ | refine o_add ?_ | refine o_cat ?_ | refine o_bin ?_ | refine o_lenq ?_ | refine o_len ?_ | refine o_loadsA ?_ | refine o_loadpA ?_ | refine o_alloc ?_ | refine o_store ?_ | refine o_not ?_
    refine ct_ret ⟨.inr rfl, oLO (els' := ((zs.take (0 + (i : Int).toNat) ++ List.replicate ((j : Int).toNat - (i : Int).toNat) (⟨[], []⟩ : SpanL) ++ zs.drop (0 + (i : Int).toNat + ((j : Int).toNat - (i : Int).toNat))).map encS)) ?_ (h := ?_)⟩
    · have e1 : 0 + (i : Int).toNat = i := by omega
      have e2 : (j : Int).toNat - (i : Int).toNat = j - i := by omega
      rw [e1, e2, h1, List.drop_of_length_le (by omega)]
      unfold delL
      rw [hN, ← hil, List.append_nil]
    · rw [← hil]
      exact congrArg (fun z => some (PV.own ⟨0, 0⟩ j 0 z)) (by omega : (i : Int).toNat - Int.toNat 0 = i)
end Go.Proofs
open Go.V Go.Pu
set_option linter.unusedVariables false
set_option linter.unusedSimpArgs false
set_option maxRecDepth 20000
namespace Go.Proofs
/-- downspout/span.Norm -/
def vc32 : VCode :=
 (.seq
 (.region 0 false [
 ⟨(some 2), .copy (.c .nils), none, 0, []⟩])
 (.seq
 (.region 1 false [
 ⟨(some 8), .copy (.t 0), none, 8192, []⟩,
 ⟨(some 9), .call (.c (.fn 45 [])) [(.t 8)], none, 8200, [0]⟩,
 ⟨(some 10), .call (.c (.fn 44 [])) [(.t 9), (.c (.fn 23 []))], none, 8208, [1, 0]⟩,
 ⟨(some 3), .copy (.t 10), none, 8216, [2, 1, 0]⟩])
 (.seq
 (.region 2 false [
 ⟨(some 11), .copy (.t 3), none, 16384, []⟩,
 ⟨(some 12), .call (.c (.fn 46 [])) [(.t 11), (.c (.fn 47 []))], none, 16392, [0]⟩])
 (.seq
 (.region 3 false [
 ⟨(some 4), .copy (.c .nils), none, 24576, []⟩])
 (.seq
 (.seq
 (.region 4 false [
 ⟨(some 13), .copy (.t 3), none, 32768, []⟩,
 ⟨(some 14), .len (.t 13), none, 32776, [0]⟩,
 ⟨(some 15), .copy (.c (.int .i64 0)), none, 32784, []⟩])
 (.block 0
 (.loop
 (.seq
 (.region 5 false [
 ⟨(some 16), .bin .lss (.t 15) (.t 14), none, 40960, []⟩])
 (.seq
 (.cond (.t 16)
 .skip
 (.exit 0))
 (.seq
 (.block 1
 (.seq
 (.region 6 false [
 ⟨(some 17), .iaddr 2 (.t 13) (.t 15), none, 49152, []⟩,
 ⟨(some 18), .load true 2 (.t 17), none, 49160, [0]⟩,
 ⟨(some 6), .alloc [(.str []), (.str [])], none, 49168, []⟩,
 ⟨none, .store 2 (.t 6) (.t 18), none, 49176, [2, 1, 0]⟩])
 (.seq
 (.region 7 false [
 ⟨(some 19), .copy (.t 4), none, 57344, []⟩,
 ⟨(some 20), .len (.t 19), none, 57352, [0]⟩,
 ⟨(some 7), .copy (.t 20), none, 57360, [1, 0]⟩])
 (.seq
 (.seq
 (.region 8 true [
 ⟨(some 21), .copy (.t 7), none, 65536, []⟩,
 ⟨(some 22), .bin .eql (.t 21) (.c (.int .i64 0)), none, 65544, [0]⟩,
 ⟨(some 23), .copy (.t 22), none, 65552, [1, 0]⟩,
 ⟨(some 24), .copy (.t 4), (some (2, 23, false)), 65560, [2, 1, 0]⟩,
 ⟨(some 25), .copy (.t 7), (some (2, 23, false)), 65568, [2, 1, 0]⟩,
 ⟨(some 26), .bin .sub (.t 25) (.c (.int .i64 1)), (some (2, 23, false)), 65576, [4, 2, 1, 0]⟩,
 ⟨(some 27), .iaddr 2 (.t 24) (.t 26), (some (2, 23, false)), 65584, [3, 2, 1, 0, 5, 4]⟩,
 ⟨(some 28), .faddr 1 (.t 27), (some (2, 23, false)), 65592, [6, 3, 2, 1, 0, 5, 4]⟩,
 ⟨(some 29), .load false 1 (.t 28), (some (2, 23, false)), 65600, [7, 6, 3, 2, 1, 0, 5, 4]⟩,
 ⟨(some 30), .bin .neq (.t 29) (.c (.str [])), (some (2, 23, false)), 65608, [8, 7, 6, 3, 2, 1, 0, 5, 4]⟩,
 ⟨(some 31), .copy (.t 30), (some (2, 23, false)), 65616, [9, 8, 7, 6, 3, 2, 1, 0, 5, 4]⟩,
 ⟨(some 32), .copy (.t 4), (some (10, 31, true)), 65624, [10, 9, 8, 7, 6, 3, 2, 1, 0, 5, 4]⟩,
 ⟨(some 33), .copy (.t 7), (some (10, 31, true)), 65632, [10, 9, 8, 7, 6, 3, 2, 1, 0, 5, 4]⟩,
 ⟨(some 34), .bin .sub (.t 33) (.c (.int .i64 1)), (some (10, 31, true)), 65640, [12, 10, 9, 8, 7, 6, 3, 2, 1, 0, 5, 4]⟩,
 ⟨(some 35), .iaddr 2 (.t 32) (.t 34), (some (10, 31, true)), 65648, [11, 10, 9, 8, 7, 6, 3, 2, 1, 0, 5, 4, 13, 12]⟩,
 ⟨(some 36), .faddr 1 (.t 35), (some (10, 31, true)), 65656, [14, 11, 10, 9, 8, 7, 6, 3, 2, 1, 0, 5, 4, 13, 12]⟩,
 ⟨(some 37), .load false 1 (.t 36), (some (10, 31, true)), 65664, [15, 14, 11, 10, 9, 8, 7, 6, 3, 2, 1, 0, 5, 4, 13, 12]⟩,
 ⟨(some 38), .faddr 0 (.t 6), (some (10, 31, true)), 65672, [10, 9, 8, 7, 6, 3, 2, 1, 0, 5, 4]⟩,
 ⟨(some 39), .load false 1 (.t 38), (some (10, 31, true)), 65680, [17, 10, 9, 8, 7, 6, 3, 2, 1, 0, 5, 4]⟩,
 ⟨(some 40), .bin .lss (.t 37) (.t 39), (some (10, 31, true)), 65688, [16, 15, 14, 11, 10, 9, 8, 7, 6, 3, 2, 1, 0, 5, 4, 13, 12, 18, 17]⟩,
 ⟨(some 41), .pick (.t 31) (.t 40) (.c (.bool false)), (some (2, 23, false)), 65696, [10, 9, 8, 7, 6, 3, 2, 1, 0, 5, 4, 19, 16, 15, 14, 11, 13, 12, 18, 17]⟩,
 ⟨(some 42), .pick (.t 23) (.c (.bool true)) (.t 41), none, 65704, [2, 1, 0, 20, 10, 9, 8, 7, 6, 3, 5, 4, 19, 16, 15, 14, 11, 13, 12, 18, 17]⟩])
 (.cond (.t 42)
 (.seq
 (.region 9 false [
 ⟨(some 43), .copy (.t 4), none, 73728, []⟩,
 ⟨(some 44), .load true 2 (.t 6), none, 73736, []⟩,
 ⟨(some 45), .bslice 2 [(.str []), (.str [])] 1 [(0, (.t 44))], none, 73744, [1]⟩,
 ⟨(some 46), .append 2 32 [(.str []), (.str [])] (.t 43) (.t 45), none, 73752, [0, 2, 1]⟩,
 ⟨(some 4), .copy (.t 46), none, 73760, [3, 0, 2, 1]⟩])
 (.exit 1))
 .skip))
 (.seq
 (.region 10 true [
 ⟨(some 47), .copy (.t 4), none, 81920, []⟩,
 ⟨(some 48), .copy (.t 7), none, 81928, []⟩,
 ⟨(some 49), .bin .sub (.t 48) (.c (.int .i64 1)), none, 81936, [1]⟩,
 ⟨(some 50), .iaddr 2 (.t 47) (.t 49), none, 81944, [0, 2, 1]⟩,
 ⟨(some 51), .faddr 1 (.t 50), none, 81952, [3, 0, 2, 1]⟩,
 ⟨(some 52), .load false 1 (.t 51), none, 81960, [4, 3, 0, 2, 1]⟩,
 ⟨(some 53), .faddr 1 (.t 6), none, 81968, []⟩,
 ⟨(some 54), .load false 1 (.t 53), none, 81976, [6]⟩,
 ⟨(some 55), .call (.c (.fn 43 [])) [(.t 52), (.t 54)], none, 81984, [5, 4, 3, 0, 2, 1, 7, 6]⟩,
 ⟨(some 56), .bin .lss (.t 55) (.c (.int .i64 0)), none, 81992, [8, 5, 4, 3, 0, 2, 1, 7, 6]⟩])
 (.cond (.t 56)
 (.region 11 false [
 ⟨(some 57), .copy (.t 4), none, 90112, []⟩,
 ⟨(some 58), .copy (.t 7), none, 90120, []⟩,
 ⟨(some 59), .bin .sub (.t 58) (.c (.int .i64 1)), none, 90128, [1]⟩,
 ⟨(some 60), .faddr 1 (.t 6), none, 90136, []⟩,
 ⟨(some 61), .load false 1 (.t 60), none, 90144, [3]⟩,
 ⟨(some 62), .iaddr 2 (.t 57) (.t 59), none, 90152, [0, 2, 1, 3, 4]⟩,
 ⟨(some 63), .faddr 1 (.t 62), none, 90160, [5, 0, 2, 1, 3, 4]⟩,
 ⟨none, .store 1 (.t 63) (.t 61), none, 90168, [6, 5, 0, 2, 1, 3, 4]⟩])
 .skip))))))
 (.region 12 false [
 ⟨(some 64), .bin .add (.t 15) (.c (.int .i64 1)), none, 98304, []⟩,
 ⟨(some 15), .copy (.t 64), none, 98312, [0]⟩])))))))
 (.seq
 (.region 13 false [
 ⟨(some 65), .copy (.t 4), none, 106496, []⟩,
 ⟨(some 2), .copy (.t 65), none, 106504, [0]⟩])
 .ret))))))
theorem vf32 : VF Try.prog 32 = some (66, vc32, [.tmp 2]) := by kernel_rfl
/-! Norm -/
set_option maxHeartbeats 2000000 in
theorem norm_vc {q : PV} {xs : List SpanL} (hq : Sl q (xs.map encS)) (hl : xs.length ≤ 60000) : VC Try.prog 32 [q] [] (ownV ⟨0, 0⟩ ((rnormL xs).map encS)) [blkV 2 ((rnormL xs).map encS)] := by
  refine vc_of vf32 ?_ (Nat.le_of_ble_eq_true rfl) (by intro vs h; cases h)
  obtain ⟨hs, hnw⟩ := sortedS_spec xs
  have hkl : (xs.filter ne).length ≤ xs.length := List.length_filter_le ne xs
  have h1 := clone_vc hq hl
  have h2 := del_vc (N := (xs.map encS).length) xs (by simp) (by simpa using hl)
  have h3 := sort_vc (N := (xs.map encS).length) (n := (xs.filter ne).length) (delL xs) (by simp [delL_len]) (by simpa using hkl) (by simpa using hl)
  have h3' : VC Try.prog 46 [.own ⟨0, 0⟩ (xs.map encS).length 0 (xs.filter ne).length, .fn 47 []] [blkV 2 ((delL xs).map encS)] (.tup []) (srt (sortedS xs)) := h3
  generalize (xs.filter ne).length = k at *
  generalize delL xs = dl at *
  generalize sortedS xs = ss at *
  obtain ⟨sl, rfl⟩ : ∃ sl : List SpanL, ss = sl.toArray := ⟨ss.toList, by simp⟩
  have hlen2 : xs.length = sl.length := by simpa using hs.symm
  rw [← hnw, show sl.toArray.toList = sl from rfl]
  have hkl2 : k ≤ sl.length := by omega
  repeat first | refine o_copy ?_ | refine nl ?_ | refine ct_seq ?_ | refine rg ?_ | refine ct_block ?_ | refine bq ?_ | refine cv h1 ?_ | refine cl (lent := [⟨1, 8200⟩]) h2 ?_ | refine cl (lent := [⟨1, 8200⟩]) h3' ?_ | refine o_loads ?_ | refine o_loadp ?_ | refine o_faddr ?_ | refine o_iaddr ?_ | refine o_iaddrO ?_ | refine o_iaddrR ?_ | refine o_add ?_ | refine o_sub ?_ | refine o_cat ?_ | refine o_bin ?_ | refine o_lenq ?_ | refine o_len ?_ | refine o_loadsA ?_ | refine o_loadpA ?_ | refine o_alloc ?_ | refine o_bslice ?_ | refine o_store ?_ | refine o_pickt ?_ | refine o_pickf ?_ | refine skF ?_ | refine skU ?_
  change CT _ _ (.loop _) _ _
  have hkb : k ≤ 60000 := by omega
  have hxl : (xs.map encS).length = xs.length := List.length_map ..
  clear h1 h2 h3 h3' hs hnw
  refine ct_loopG (fun (g : Nat × List SpanL) => [(4, ownV ⟨1, 73752⟩ (g.2.map encS)), (13, .own ⟨1, 8200⟩ (xs.map encS).length 0 k), (14, .int .i64 k), (15, .int .i64 g.1)])
    (fun g => [(⟨1, 8200⟩, blkV 2 (sl.map encS)), (⟨1, 73752⟩, blkV 2 (g.2.map encS))]) (fun g => k - g.1)
    (fun g => g.1 ≤ k ∧ g.2.length ≤ g.1 ∧ ((sl.take k).drop g.1).foldl stepL g.2 = normW (sl.take k)) (0, []) ((Imp.nil (t := 4) (b := ⟨1, 73752⟩) (esz := 2) rfl rfl (by decide)).trans goes) ⟨Nat.zero_le _, Nat.le_refl _, rfl⟩ ?_
  rintro ⟨i, o⟩ ⟨hi, ho, hw⟩
  dsimp only at hi ho hw ⊢
  repeat first | refine o_copy ?_ | refine nl ?_ | refine ct_seq ?_ | refine rg ?_ | refine ct_block ?_ | refine bq ?_ | refine o_loads ?_ | refine o_loadp ?_ | refine o_faddr ?_ | refine o_iaddr ?_ | refine o_iaddrO ?_ | refine o_iaddrR ?_ | refine o_add ?_ | refine o_sub ?_ | refine o_cat ?_ | refine o_bin ?_ | refine o_lenq ?_ | refine o_len ?_ | refine o_loadsA ?_ | refine o_loadpA ?_ | refine o_alloc ?_ | refine o_bslice ?_ | refine o_store ?_ | refine o_pickt ?_ | refine o_pickf ?_ | refine skF ?_ | refine skU ?_
  refine cnd (fun h => ct_skip ?_) (fun h => ct_exit ?_)
  · have hlt : i < k := by have h' := of_decide_eq_true h; omega
    obtain ⟨y, hy⟩ : ∃ x, sl[i]? = some x := ⟨_, List.getElem?_eq_getElem (by omega)⟩
    have hyt : (sl.take k)[i]? = some y := by rw [List.getElem?_take, if_pos hlt]; exact hy
    have hye := gm (enc := encS) (n := (i : Int)) hy (by omega)
    have hye2 : (blkV 2 (sl.map encS)).els[0 + (i : Int).toNat]? = some (encS y) := by rw [Nat.zero_add]; exact hye
    rw [drop_get hyt, List.foldl_cons] at hw
    have hlen := stepL_len o y
    rcases Nat.eq_zero_or_pos o.length with h0 | hpos
    · have ho0 : o = [] := List.length_eq_zero_iff.1 h0
      subst ho0
      repeat first | refine o_copy ?_ | refine nl ?_ | refine ct_seq ?_ | refine rg ?_ | refine ct_block ?_ | refine bq ?_ | refine o_iaddrG ?_ | refine o_loads ?_ | refine o_loadp ?_ | refine o_faddr ?_ | refine o_iaddr ?_ | refine o_iaddrO ?_ | refine o_iaddrR ?_ | refine o_add ?_ | refine o_sub ?_ | refine o_cat ?_ | refine o_bin ?_ | refine o_lenq ?_ | refine o_len ?_ | refine o_loadsA ?_ | refine o_loadpA ?_ | refine o_alloc ?_ | refine o_bslice ?_ | refine o_store ?_ | refine o_pickt ?_ | refine o_pickf ?_ | refine skF ?_ | refine skU ?_
      refine cndt ?_
      repeat first | refine o_copy ?_ | refine nl ?_ | refine ct_seq ?_ | refine rg ?_ | refine ct_block ?_ | refine bq ?_ | refine o_iaddrG ?_ | refine o_v (vap encS y) ?_ | refine o_loads ?_ | refine o_loadp ?_ | refine o_faddr ?_ | refine o_iaddr ?_ | refine o_iaddrO ?_ | refine o_iaddrR ?_ | refine o_add ?_ | refine o_sub ?_ | refine o_cat ?_ | refine o_bin ?_ | refine o_lenq ?_ | refine o_len ?_ | refine o_loadsA ?_ | refine o_loadpA ?_ | refine o_alloc ?_ | refine o_bslice ?_ | refine o_store ?_ | refine o_pickt ?_ | refine o_pickf ?_ | refine skF ?_ | refine skU ?_
      refine ct_exit ?_
      repeat first | refine o_copy ?_ | refine nl ?_ | refine ct_seq ?_ | refine rg ?_ | refine ct_block ?_ | refine bq ?_ | refine o_loads ?_ | refine o_loadp ?_ | refine o_faddr ?_ | refine o_iaddr ?_ | refine o_iaddrO ?_ | refine o_iaddrR ?_ | refine o_add ?_ | refine o_sub ?_ | refine o_cat ?_ | refine o_bin ?_ | refine o_lenq ?_ | refine o_len ?_ | refine o_loadsA ?_ | refine o_loadpA ?_ | refine o_alloc ?_ | refine o_bslice ?_ | refine o_store ?_ | refine o_pickt ?_ | refine o_pickf ?_ | refine skF ?_ | refine skU ?_
      exact agn (i + 1, [] ++ [y]) ⟨by simp only; omega, by simp, hw⟩ goes
    · obtain ⟨x, hx⟩ : ∃ x, o[o.length - 1]? = some x := ⟨_, List.getElem?_eq_getElem (by omega)⟩
      have hidx : 0 + (((o.map encS).length : Int) - 1).toNat = o.length - 1 := by simp only [List.length_map]; omega
      have hx' : o[0 + (((o.map encS).length : Int) - 1).toNat]? = some x := by rw [hidx]; exact hx
      have hxe : (blkV 2 (o.map encS)).els[0 + (((o.map encS).length : Int) - 1).toNat]? = some (encS x) := by
        show (o.map encS)[_]? = _
        rw [List.getElem?_map, hx']; rfl
      have hng : decide (((o.map encS).length : Int) = 0) = false := decide_eq_false (by simp only [List.length_map]; omega)
      have hst : stepL o y = if x.hi ≠ [] ∧ Op.bytesLess x.hi y.lo = true then o ++ [y] else if lessL x.hi y.hi = true then o.set (o.length - 1) ⟨x.lo, y.hi⟩ else o := by unfold stepL; rw [hx]
      have hmp : 0 < (o.map encS).length := by simp only [List.length_map]; omega
      have hml : (o.map encS).length = o.length := List.length_map ..
      repeat first | refine o_copy ?_ | refine nl ?_ | refine ct_seq ?_ | refine rg ?_ | refine ct_block ?_ | refine bq ?_ | refine o_iaddrG ?_ | refine o_loads ?_ | refine o_loadp ?_ | refine o_faddr ?_ | refine o_iaddr ?_ | refine o_iaddrO ?_ | refine o_iaddrR ?_ | refine o_add ?_ | refine o_sub ?_ | refine o_cat ?_ | refine o_bin ?_ | refine o_lenq ?_ | refine o_len ?_ | refine o_loadsA ?_ | refine o_loadpA ?_ | refine o_alloc ?_ | refine o_bslice ?_ | refine o_store ?_ | refine o_pickt ?_ | refine o_pickf ?_ | refine skF ?_ | refine skU ?_
      refine glook (fun hg => ?_) (fun hg => ?_)
      · have hxh : x.hi ≠ [] := by simpa using hg
        repeat first | refine o_copy ?_ | refine nl ?_ | refine ct_seq ?_ | refine rg ?_ | refine ct_block ?_ | refine bq ?_ | refine o_iaddrG ?_ | refine o_loads ?_ | refine o_loadp ?_ | refine o_faddr ?_ | refine o_iaddr ?_ | refine o_iaddrO ?_ | refine o_iaddrR ?_ | refine o_add ?_ | refine o_sub ?_ | refine o_cat ?_ | refine o_bin ?_ | refine o_lenq ?_ | refine o_len ?_ | refine o_loadsA ?_ | refine o_loadpA ?_ | refine o_alloc ?_ | refine o_bslice ?_ | refine o_store ?_ | refine o_pickt ?_ | refine o_pickf ?_ | refine skF ?_ | refine skU ?_
        refine cnd (fun h2 => ?_) (fun h2 => ct_skip ?_)
        · rw [if_pos ⟨hxh, h2⟩] at hst
          rw [hst] at hw hlen
          repeat first | refine o_copy ?_ | refine nl ?_ | refine ct_seq ?_ | refine rg ?_ | refine ct_block ?_ | refine bq ?_ | refine o_iaddrG ?_ | refine o_v (vap encS y) ?_ | refine o_loads ?_ | refine o_loadp ?_ | refine o_faddr ?_ | refine o_iaddr ?_ | refine o_iaddrO ?_ | refine o_iaddrR ?_ | refine o_add ?_ | refine o_sub ?_ | refine o_cat ?_ | refine o_bin ?_ | refine o_lenq ?_ | refine o_len ?_ | refine o_loadsA ?_ | refine o_loadpA ?_ | refine o_alloc ?_ | refine o_bslice ?_ | refine o_store ?_ | refine o_pickt ?_ | refine o_pickf ?_ | refine skF ?_ | refine skU ?_
          refine ct_exit ?_
          repeat first | refine o_copy ?_ | refine nl ?_ | refine ct_seq ?_ | refine rg ?_ | refine ct_block ?_ | refine bq ?_ | refine o_loads ?_ | refine o_loadp ?_ | refine o_faddr ?_ | refine o_iaddr ?_ | refine o_iaddrO ?_ | refine o_iaddrR ?_ | refine o_add ?_ | refine o_sub ?_ | refine o_cat ?_ | refine o_bin ?_ | refine o_lenq ?_ | refine o_len ?_ | refine o_loadsA ?_ | refine o_loadpA ?_ | refine o_alloc ?_ | refine o_bslice ?_ | refine o_store ?_ | refine o_pickt ?_ | refine o_pickf ?_ | refine skF ?_ | refine skU ?_
          exact agn (i + 1, o ++ [y]) ⟨by simp only; omega, by simp only; omega, hw⟩ goes
        · rw [if_neg (by simp [h2])] at hst
          repeat first | refine o_copy ?_ | refine nl ?_ | refine ct_seq ?_ | refine rg ?_ | refine ct_block ?_ | refine bq ?_ | refine o_iaddrG ?_ | refine cv0 (compare_vc x.hi y.hi) ?_ | refine o_loads ?_ | refine o_loadp ?_ | refine o_faddr ?_ | refine o_iaddr ?_ | refine o_iaddrO ?_ | refine o_iaddrR ?_ | refine o_add ?_ | refine o_sub ?_ | refine o_cat ?_ | refine o_bin ?_ | refine o_lenq ?_ | refine o_len ?_ | refine o_loadsA ?_ | refine o_loadpA ?_ | refine o_alloc ?_ | refine o_bslice ?_ | refine o_store ?_ | refine o_pickt ?_ | refine o_pickf ?_ | refine skF ?_ | refine skU ?_
          refine cnd (fun h3 => ?_) (fun h3 => ct_skip ?_)
          · have h3' : lessL x.hi y.hi = true := less_iff.2 (cmpEnd_lt.1 (of_decide_eq_true h3))
            rw [if_pos h3', ← hidx] at hst
            rw [hst] at hw hlen
            repeat first | refine o_copy ?_ | refine nl ?_ | refine ct_seq ?_ | refine rg ?_ | refine ct_block ?_ | refine bq ?_ | refine o_iaddrG ?_ | refine o_v (vstf encS (⟨x.lo, y.hi⟩ : SpanL) hx') ?_ | refine o_loads ?_ | refine o_loadp ?_ | refine o_faddr ?_ | refine o_iaddr ?_ | refine o_iaddrO ?_ | refine o_iaddrR ?_ | refine o_add ?_ | refine o_sub ?_ | refine o_cat ?_ | refine o_bin ?_ | refine o_lenq ?_ | refine o_len ?_ | refine o_loadsA ?_ | refine o_loadpA ?_ | refine o_alloc ?_ | refine o_bslice ?_ | refine o_store ?_ | refine o_pickt ?_ | refine o_pickf ?_ | refine skF ?_ | refine skU ?_
            exact agn (i + 1, _) ⟨by simp only; omega, by simp only; omega, hw⟩ (goes (h1 := by
              refine ⟨?_, rfl, rfl, rfl, trivial⟩
              exact congrArg (fun n => some (PV.own ⟨1, 73752⟩ n 0 n)) (by simp : (o.map encS).length = _)))
          · have h3' : ¬ lessL x.hi y.hi = true := fun h => (of_decide_eq_false h3) (cmpEnd_lt.2 (less_iff.1 h))
            rw [if_neg h3'] at hst
            rw [hst] at hw hlen
            repeat first | refine o_copy ?_ | refine nl ?_ | refine ct_seq ?_ | refine rg ?_ | refine ct_block ?_ | refine bq ?_ | refine o_loads ?_ | refine o_loadp ?_ | refine o_faddr ?_ | refine o_iaddr ?_ | refine o_iaddrO ?_ | refine o_iaddrR ?_ | refine o_add ?_ | refine o_sub ?_ | refine o_cat ?_ | refine o_bin ?_ | refine o_lenq ?_ | refine o_len ?_ | refine o_loadsA ?_ | refine o_loadpA ?_ | refine o_alloc ?_ | refine o_bslice ?_ | refine o_store ?_ | refine o_pickt ?_ | refine o_pickf ?_ | refine skF ?_ | refine skU ?_
            exact agn (i + 1, o) ⟨by simp only; omega, by simp only; omega, hw⟩ goes
      · have hxh : x.hi = [] := by simpa using hg
        rw [if_neg (by simp [hxh])] at hst
        have hl0 : ¬ lessL x.hi y.hi = true := by simp [lessL, hxh]
        rw [if_neg hl0] at hst
        rw [hst] at hw hlen
        repeat first | refine o_copy ?_ | refine nl ?_ | refine ct_seq ?_ | refine rg ?_ | refine ct_block ?_ | refine bq ?_ | refine o_iaddrG ?_ | refine o_loads ?_ | refine o_loadp ?_ | refine o_faddr ?_ | refine o_iaddr ?_ | refine o_iaddrO ?_ | refine o_iaddrR ?_ | refine o_add ?_ | refine o_sub ?_ | refine o_cat ?_ | refine o_bin ?_ | refine o_lenq ?_ | refine o_len ?_ | refine o_loadsA ?_ | refine o_loadpA ?_ | refine o_alloc ?_ | refine o_bslice ?_ | refine o_store ?_ | refine o_pickt ?_ | refine o_pickf ?_ | refine skF ?_ | refine skU ?_
        refine cndf (ct_skip ?_)
        repeat first | refine o_copy ?_ | refine nl ?_ | refine ct_seq ?_ | refine rg ?_ | refine ct_block ?_ | refine bq ?_ | refine o_iaddrG ?_ | refine cv0 (compare_vc x.hi y.hi) ?_ | refine o_loads ?_ | refine o_loadp ?_ | refine o_faddr ?_ | refine o_iaddr ?_ | refine o_iaddrO ?_ | refine o_iaddrR ?_ | refine o_add ?_ | refine o_sub ?_ | refine o_cat ?_ | refine o_bin ?_ | refine o_lenq ?_ | refine o_len ?_ | refine o_loadsA ?_ | refine o_loadpA ?_ | refine o_alloc ?_ | refine o_bslice ?_ | refine o_store ?_ | refine o_pickt ?_ | refine o_pickf ?_ | refine skF ?_ | refine skU ?_
        refine cndf (ct_skip ?_) rfl (decide_eq_false (fun h => hl0 (less_iff.2 (cmpEnd_lt.1 h))))
        repeat first | refine o_copy ?_ | refine nl ?_ | refine ct_seq ?_ | refine rg ?_ | refine ct_block ?_ | refine bq ?_ | refine o_loads ?_ | refine o_loadp ?_ | refine o_faddr ?_ | refine o_iaddr ?_ | refine o_iaddrO ?_ | refine o_iaddrR ?_ | refine o_add ?_ | refine o_sub ?_ | refine o_cat ?_ | refine o_bin ?_ | refine o_lenq ?_ | refine o_len ?_ | refine o_loadsA ?_ | refine o_loadpA ?_ | refine o_alloc ?_ | refine o_bslice ?_ | refine o_store ?_ | refine o_pickt ?_ | refine o_pickf ?_ | refine skF ?_ | refine skU ?_
        exact agn (i + 1, o) ⟨by simp only; omega, by simp only; omega, hw⟩ goes
  · have hge : i = k := by have h' := of_decide_eq_false h; omega
    subst hge
    rw [List.drop_eq_nil_of_le (by simp; omega), List.foldl_nil] at hw
    repeat first | refine o_copy ?_ | refine nl ?_ | refine ct_seq ?_ | refine rg ?_ | refine ct_block ?_ | refine bq ?_ | refine o_loads ?_ | refine o_loadp ?_ | refine o_faddr ?_ | refine o_iaddr ?_ | refine o_iaddrO ?_ | refine o_iaddrR ?_ | refine o_add ?_ | refine o_sub ?_ | refine o_cat ?_ | refine o_bin ?_ | refine o_lenq ?_ | refine o_len ?_ | refine o_loadsA ?_ | refine o_loadpA ?_ | refine o_alloc ?_ | refine o_bslice ?_ | refine o_store ?_ | refine o_pickt ?_ | refine o_pickf ?_ | refine skF ?_ | refine skU ?_
    exact ct_ret ⟨.inr rfl, oOwn (congrArg (List.map encS) hw)⟩
end Go.Proofs
