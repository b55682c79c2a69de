/-
  An evaluator of the program's functions over trees of values, proved sound. No condition.
-/
import Derived.Test.YtnegfdebjikfiaaGreatProg
import Derived.Test.YtnegfdebjikfiaaGreatSuSd
import Derived.KernelRfl
namespace Su
open Go Go.Proofs Fly
set_option maxRecDepth 100000
noncomputable def tyB : Bt (Bool × Nat) := (.node (.node (.node (.node (.node (.node (.node (.node .nil 0 ((false, 1)) .nil) 1 ((false, 1)) (.node .nil 2 ((false, 1)) .nil)) 3 ((false, 1)) (.node (.node .nil 
  4 ((false, 1)) .nil) 5 ((false, 1)) .nil)) 6 ((false, 1)) (.node (.node (.node .nil 7 ((true, 4)) .nil) 8 ((true, 4)) .nil) 9 ((false, 1)) (.node (.node .nil 10 
  ((false, 1)) .nil) 11 ((false, 1)) .nil))) 12 ((false, 1)) (.node (.node (.node (.node .nil 13 ((true, 2)) .nil) 14 ((true, 2)) (.node .nil 15 ((false, 1)) .nil)) 
  16 ((false, 1)) (.node (.node .nil 17 ((false, 1)) .nil) 18 ((true, 1)) .nil)) 19 ((true, 1)) (.node (.node (.node .nil 20 ((false, 1)) .nil) 21 ((false, 1)) .nil) 
  22 ((false, 1)) (.node (.node .nil 23 ((false, 1)) .nil) 24 ((true, 3)) .nil)))) 25 ((true, 3)) (.node (.node (.node (.node (.node .nil 26 ((false, 1)) .nil) 27 
  ((true, 4)) (.node .nil 28 ((true, 4)) .nil)) 29 ((false, 1)) (.node (.node .nil 30 ((false, 1)) .nil) 31 ((false, 1)) .nil)) 32 ((true, 5)) (.node (.node (.node 
  .nil 33 ((true, 5)) .nil) 34 ((false, 1)) .nil) 35 ((false, 1)) (.node (.node .nil 36 ((false, 1)) .nil) 37 ((false, 1)) .nil))) 38 ((false, 1)) (.node (.node (.node 
  (.node .nil 39 ((false, 1)) .nil) 40 ((false, 1)) .nil) 41 ((false, 1)) (.node (.node .nil 42 ((false, 1)) .nil) 43 ((false, 1)) .nil)) 44 ((false, 1)) (.node (.node 
  (.node .nil 45 ((false, 1)) .nil) 46 ((false, 1)) .nil) 47 ((false, 1)) (.node (.node .nil 48 ((false, 1)) .nil) 49 ((false, 1)) .nil))))) 50 ((false, 1)) (.node 
  (.node (.node (.node (.node (.node .nil 51 ((false, 1)) .nil) 52 ((false, 1)) (.node .nil 53 ((false, 1)) .nil)) 54 ((false, 1)) (.node (.node .nil 55 ((false, 1)) 
  .nil) 56 ((false, 1)) .nil)) 57 ((true, 2)) (.node (.node (.node .nil 58 ((true, 2)) .nil) 59 ((false, 1)) .nil) 60 ((false, 1)) (.node (.node .nil 61 ((false, 1)) 
  .nil) 62 ((false, 1)) .nil))) 63 ((false, 1)) (.node (.node (.node (.node .nil 64 ((false, 1)) .nil) 65 ((false, 1)) .nil) 66 ((false, 1)) (.node (.node .nil 67 
  ((false, 1)) .nil) 68 ((false, 1)) .nil)) 69 ((false, 1)) (.node (.node (.node .nil 70 ((false, 1)) .nil) 71 ((false, 1)) .nil) 72 ((false, 1)) (.node (.node .nil 
  73 ((false, 1)) .nil) 74 ((false, 1)) .nil)))) 75 ((false, 1)) (.node (.node (.node (.node (.node .nil 76 ((false, 1)) .nil) 77 ((false, 1)) (.node .nil 78 ((false, 
  1)) .nil)) 79 ((false, 1)) (.node (.node .nil 80 ((false, 1)) .nil) 81 ((false, 1)) .nil)) 82 ((false, 1)) (.node (.node (.node .nil 83 ((false, 1)) .nil) 84 ((false, 
  1)) .nil) 85 ((false, 1)) (.node (.node .nil 86 ((false, 1)) .nil) 87 ((false, 1)) .nil))) 88 ((false, 1)) (.node (.node (.node (.node .nil 89 ((false, 1)) .nil) 
  90 ((false, 1)) .nil) 91 ((false, 1)) (.node (.node .nil 92 ((false, 1)) .nil) 93 ((false, 1)) .nil)) 94 ((false, 1)) (.node (.node (.node .nil 95 ((false, 1)) .nil) 
  96 ((false, 1)) .nil) 97 ((false, 1)) (.node (.node .nil 98 ((false, 1)) .nil) 99 ((false, 1)) .nil)))))) 100 ((false, 1)) (.node (.node (.node (.node (.node (.node 
  (.node .nil 101 ((false, 1)) .nil) 102 ((false, 1)) (.node .nil 103 ((false, 1)) .nil)) 104 ((false, 1)) (.node (.node .nil 105 ((false, 1)) .nil) 106 ((false, 1)) 
  .nil)) 107 ((false, 1)) (.node (.node (.node .nil 108 ((false, 1)) .nil) 109 ((false, 1)) .nil) 110 ((false, 1)) (.node (.node .nil 111 ((false, 1)) .nil) 112 ((false, 
  1)) .nil))) 113 ((false, 1)) (.node (.node (.node (.node .nil 114 ((false, 1)) .nil) 115 ((false, 1)) (.node .nil 116 ((true, 5)) .nil)) 117 ((true, 5)) (.node (.node 
  .nil 118 ((false, 1)) .nil) 119 ((false, 1)) .nil)) 120 ((false, 1)) (.node (.node (.node .nil 121 ((false, 1)) .nil) 122 ((false, 1)) .nil) 123 ((false, 1)) (.node 
  (.node .nil 124 ((false, 1)) .nil) 125 ((false, 1)) .nil)))) 126 ((false, 1)) (.node (.node (.node (.node (.node .nil 127 ((false, 1)) .nil) 128 ((false, 1)) (.node 
  .nil 129 ((false, 1)) .nil)) 130 ((false, 1)) (.node (.node .nil 131 ((false, 1)) .nil) 132 ((false, 1)) .nil)) 133 ((false, 1)) (.node (.node (.node .nil 134 ((false, 
  1)) .nil) 135 ((false, 1)) .nil) 136 ((true, 2)) (.node (.node .nil 137 ((true, 2)) .nil) 138 ((false, 1)) .nil))) 139 ((false, 1)) (.node (.node (.node (.node .nil 
  140 ((false, 1)) .nil) 141 ((false, 1)) .nil) 142 ((false, 1)) (.node (.node .nil 143 ((false, 1)) .nil) 144 ((false, 1)) .nil)) 145 ((false, 1)) (.node (.node (.node 
  .nil 146 ((false, 1)) .nil) 147 ((false, 1)) .nil) 148 ((false, 1)) (.node (.node .nil 149 ((false, 1)) .nil) 150 ((false, 1)) .nil))))) 151 ((false, 1)) (.node 
  (.node (.node (.node (.node (.node .nil 152 ((false, 1)) .nil) 153 ((false, 1)) (.node .nil 154 ((false, 1)) .nil)) 155 ((false, 1)) (.node (.node .nil 156 ((false, 
  1)) .nil) 157 ((false, 1)) .nil)) 158 ((false, 1)) (.node (.node (.node .nil 159 ((false, 1)) .nil) 160 ((true, 4)) .nil) 161 ((true, 4)) (.node (.node .nil 162 
  ((false, 1)) .nil) 163 ((true, 5)) .nil))) 164 ((true, 5)) (.node (.node (.node (.node .nil 165 ((false, 1)) .nil) 166 ((false, 1)) .nil) 167 ((false, 1)) (.node 
  (.node .nil 168 ((false, 1)) .nil) 169 ((false, 1)) .nil)) 170 ((false, 1)) (.node (.node (.node .nil 171 ((false, 1)) .nil) 172 ((false, 1)) .nil) 173 ((false, 
  1)) (.node (.node .nil 174 ((false, 1)) .nil) 175 ((false, 1)) .nil)))) 176 ((false, 1)) (.node (.node (.node (.node (.node .nil 177 ((false, 1)) .nil) 178 ((false, 
  1)) (.node .nil 179 ((false, 1)) .nil)) 180 ((false, 1)) (.node (.node .nil 181 ((false, 1)) .nil) 182 ((false, 1)) .nil)) 183 ((false, 1)) (.node (.node (.node 
  .nil 184 ((false, 1)) .nil) 185 ((false, 1)) .nil) 186 ((false, 1)) (.node (.node .nil 187 ((true, 4)) .nil) 188 ((true, 4)) .nil))) 189 ((true, 0)) (.node (.node 
  (.node (.node .nil 190 ((true, 0)) .nil) 191 ((true, 0)) .nil) 192 ((false, 1)) (.node (.node .nil 193 ((false, 1)) .nil) 194 ((false, 1)) .nil)) 195 ((false, 1)) 
  (.node (.node (.node .nil 196 ((false, 1)) .nil) 197 ((false, 1)) .nil) 198 ((true, 11)) (.node (.node .nil 199 ((true, 11)) .nil) 200 ((false, 1)) .nil))))))) 
noncomputable def kdB : Bt (Kd) := (.node (.node (.node (.node (.node (.node .nil 2 (.int .i64) .nil) 3 (.int .i64) .nil) 4 (.bool) (.node .nil 5 (.int .u8) .nil)) 6 (.int .u8) (.node (.node .nil 
  7 (.flat [.int .i64, .int .i64, .bool, .int .u8]) .nil) 8 (.flat [.int .i64, .int .i64, .bool, .int .u8]) (.node .nil 9 (.str) .nil))) 10 (.str) (.node (.node (.node 
  (.node .nil 11 (.str) .nil) 12 (.int .u64) .nil) 21 (.int .i32) (.node .nil 22 (.int .u64) .nil)) 23 (.int .u64) (.node (.node .nil 24 (.flat [.bool, .int .u64, 
  .int .u64]) .nil) 25 (.flat [.bool, .int .u64, .int .u64]) (.node .nil 57 (.flat [.int .i64, .int .u64]) .nil)))) 58 (.flat [.int .i64, .int .u64]) (.node (.node 
  (.node (.node (.node .nil 68 (.int .u8) .nil) 76 (.int .u64) .nil) 77 (.int .u8) (.node .nil 96 (.int .u8) .nil)) 103 (.int .i64) (.node (.node .nil 116 (.flat [.int 
  .u64, .int .u8, .bool, .int .u64, .int .i64]) .nil) 117 (.flat [.int .u64, .int .u8, .bool, .int .u64, .int .i64]) (.node .nil 136 (.flat [.int .u64, .int .u64]) 
  .nil))) 137 (.flat [.int .u64, .int .u64]) (.node (.node (.node .nil 140 (.int .i64) .nil) 147 (.int .u32) (.node .nil 168 (.int .u64) .nil)) 192 (.int .u8) (.node 
  (.node .nil 193 (.int .u8) .nil) 196 (.int .i32) (.node .nil 197 (.int .i32) .nil))))) 
noncomputable def foB : Bt (Nat × Bool × Nat) := (.node (.node (.node (.node (.node (.node (.node .nil 448 ((0, false, 1)) .nil) 449 ((1, false, 1)) (.node .nil 450 ((2, false, 1)) .nil)) 451 ((3, false, 1)) (.node 
  (.node .nil 512 ((0, false, 1)) .nil) 513 ((1, false, 1)) .nil)) 514 ((2, false, 1)) (.node (.node (.node .nil 515 ((3, false, 1)) .nil) 832 ((0, false, 1)) .nil) 
  833 ((1, false, 1)) (.node (.node .nil 896 ((0, false, 1)) .nil) 897 ((1, false, 1)) .nil))) 1152 ((0, false, 1)) (.node (.node (.node (.node .nil 1216 ((0, false, 
  1)) .nil) 1536 ((0, false, 1)) (.node .nil 1537 ((1, false, 1)) .nil)) 1538 ((2, false, 1)) (.node (.node .nil 1600 ((0, false, 1)) .nil) 1601 ((1, false, 1)) .nil)) 
  1602 ((2, false, 1)) (.node (.node (.node .nil 1728 ((0, false, 1)) .nil) 1729 ((1, false, 1)) .nil) 1730 ((2, false, 1)) (.node (.node .nil 1731 ((3, false, 1)) 
  .nil) 1792 ((0, false, 1)) .nil)))) 1793 ((1, false, 1)) (.node (.node (.node (.node (.node .nil 1794 ((2, false, 1)) .nil) 1795 ((3, false, 1)) (.node .nil 2048 
  ((0, false, 1)) .nil)) 2049 ((1, false, 1)) (.node (.node .nil 2050 ((2, false, 1)) .nil) 2051 ((3, false, 1)) .nil)) 2052 ((4, false, 1)) (.node (.node (.node .nil 
  2112 ((0, false, 1)) .nil) 2113 ((1, false, 1)) .nil) 2114 ((2, false, 1)) (.node (.node .nil 2115 ((3, false, 1)) .nil) 2116 ((4, false, 1)) .nil))) 3648 ((0, false, 
  1)) (.node (.node (.node (.node .nil 3649 ((1, false, 1)) .nil) 3712 ((0, false, 1)) (.node .nil 3713 ((1, false, 1)) .nil)) 7424 ((0, false, 1)) (.node (.node .nil 
  7425 ((1, false, 1)) .nil) 7426 ((2, false, 1)) .nil)) 7427 ((3, false, 1)) (.node (.node (.node .nil 7428 ((4, false, 1)) .nil) 7488 ((0, false, 1)) .nil) 7489 
  ((1, false, 1)) (.node (.node .nil 7490 ((2, false, 1)) .nil) 7491 ((3, false, 1)) .nil))))) 7492 ((4, false, 1)) (.node (.node (.node (.node (.node (.node .nil 
  8704 ((0, false, 1)) .nil) 8705 ((1, false, 1)) (.node .nil 8768 ((0, false, 1)) .nil)) 8769 ((1, false, 1)) (.node (.node .nil 10240 ((0, false, 1)) .nil) 10241 
  ((1, false, 1)) .nil)) 10242 ((2, false, 1)) (.node (.node (.node .nil 10243 ((3, false, 1)) .nil) 10304 ((0, false, 1)) .nil) 10305 ((1, false, 1)) (.node (.node 
  .nil 10306 ((2, false, 1)) .nil) 10307 ((3, false, 1)) .nil))) 10432 ((0, false, 1)) (.node (.node (.node (.node .nil 10433 ((1, true, 2)) .nil) 10434 ((3, false, 
  1)) (.node .nil 10435 ((4, false, 1)) .nil)) 10496 ((0, false, 1)) (.node (.node .nil 10497 ((1, true, 2)) .nil) 10498 ((3, false, 1)) .nil)) 10499 ((4, false, 1)) 
  (.node (.node (.node .nil 11968 ((0, false, 1)) .nil) 11969 ((1, false, 1)) .nil) 11970 ((2, false, 1)) (.node (.node .nil 11971 ((3, false, 1)) .nil) 12032 ((0, 
  false, 1)) .nil)))) 12033 ((1, false, 1)) (.node (.node (.node (.node (.node .nil 12034 ((2, false, 1)) .nil) 12035 ((3, false, 1)) (.node .nil 12672 ((0, false, 
  1)) .nil)) 12673 ((1, false, 1)) (.node (.node .nil 12674 ((2, false, 1)) .nil) 12675 ((3, false, 1)) .nil)) 12676 ((4, false, 1)) (.node (.node (.node .nil 12677 
  ((5, false, 1)) .nil) 12678 ((6, false, 1)) .nil) 12679 ((7, false, 1)) (.node (.node .nil 12680 ((8, false, 1)) .nil) 12681 ((9, false, 1)) .nil))) 12682 ((10, 
  false, 1)) (.node (.node (.node (.node .nil 12736 ((0, false, 1)) .nil) 12737 ((1, false, 1)) .nil) 12738 ((2, false, 1)) (.node (.node .nil 12739 ((3, false, 1)) 
  .nil) 12740 ((4, false, 1)) .nil)) 12741 ((5, false, 1)) (.node (.node (.node .nil 12742 ((6, false, 1)) .nil) 12743 ((7, false, 1)) .nil) 12744 ((8, false, 1)) 
  (.node (.node .nil 12745 ((9, false, 1)) .nil) 12746 ((10, false, 1)) .nil)))))) 
noncomputable def elB : Bt (Nat × Nat) := (.node (.node (.node (.node .nil 26 ((58, 2)) .nil) 30 ((3, 1)) .nil) 31 ((23, 1)) (.node .nil 94 ((25, 3)) .nil)) 100 ((28, 4)) (.node (.node .nil 114 ((113, 1)) 
  .nil) 125 ((4, 1)) (.node .nil 155 ((22, 1)) .nil))) 
noncomputable def zeB : Bt (List Value) := (.node (.node (.node (.node (.node (.node (.node (.node .nil 1 ([.nilFunc]) .nil) 2 ([.int .i64 0]) .nil) 3 ([.int .i64 0]) (.node (.node .nil 4 ([.bool false]) 
  .nil) 5 ([.int .u8 0]) .nil)) 6 ([.int .u8 0]) (.node (.node (.node .nil 7 ([.int .i64 0, .int .i64 0, .bool false, .int .u8 0]) .nil) 8 ([.int .i64 0, .int .i64 
  0, .bool false, .int .u8 0]) .nil) 9 ([.string ByteArray.empty]) (.node (.node .nil 10 ([.string ByteArray.empty]) .nil) 11 ([.string ByteArray.empty]) .nil))) 12 
  ([.int .u64 0]) (.node (.node (.node (.node .nil 13 ([.string ByteArray.empty, .int .u64 0]) .nil) 14 ([.string ByteArray.empty, .int .u64 0]) .nil) 15 ([.pointer 
  none]) (.node (.node .nil 16 ([.pointer none]) .nil) 17 ([.pointer none]) .nil)) 18 ([.pointer none]) (.node (.node (.node .nil 19 ([.pointer none]) .nil) 20 ([.nilIface]) 
  .nil) 21 ([.int .i32 0]) (.node (.node .nil 22 ([.int .u64 0]) .nil) 23 ([.int .u64 0]) .nil)))) 24 ([.bool false, .int .u64 0, .int .u64 0]) (.node (.node (.node 
  (.node (.node .nil 25 ([.bool false, .int .u64 0, .int .u64 0]) .nil) 26 ([.slice none 0 0]) .nil) 27 ([.bool false, .int .u64 0, .slice none 0 0, .int .u64 0]) 
  (.node (.node .nil 28 ([.bool false, .int .u64 0, .slice none 0 0, .int .u64 0]) .nil) 29 ([.nilFunc]) .nil)) 30 ([.slice none 0 0]) (.node (.node (.node .nil 31 
  ([.slice none 0 0]) .nil) 32 ([.bool false, .int .u64 0, .slice none 0 0, .slice none 0 0, .int .u64 0]) .nil) 33 ([.bool false, .int .u64 0, .slice none 0 0, .slice 
  none 0 0, .int .u64 0]) (.node (.node .nil 34 ([.nilFunc]) .nil) 35 ([.nilFunc]) .nil))) 36 ([.nilFunc]) (.node (.node (.node (.node .nil 37 ([.nilFunc]) .nil) 38 
  ([.nilFunc]) .nil) 39 ([.nilFunc]) (.node (.node .nil 40 ([.nilFunc]) .nil) 41 ([.nilFunc]) .nil)) 42 ([.nilFunc]) (.node (.node (.node .nil 43 ([.nilFunc]) .nil) 
  44 ([.nilFunc]) .nil) 45 ([.nilFunc]) (.node .nil 46 ([.nilFunc]) .nil))))) 47 ([.nilFunc]) (.node (.node (.node (.node (.node (.node .nil 48 ([.nilFunc]) .nil) 
  49 ([.nilFunc]) .nil) 50 ([.nilFunc]) (.node (.node .nil 51 ([.nilFunc]) .nil) 52 ([.nilFunc]) .nil)) 53 ([.nilFunc]) (.node (.node (.node .nil 54 ([.nilFunc]) .nil) 
  55 ([.nilFunc]) .nil) 56 ([.nilFunc]) (.node (.node .nil 57 ([.int .i64 0, .int .u64 0]) .nil) 58 ([.int .i64 0, .int .u64 0]) .nil))) 59 ([.nilFunc]) (.node (.node 
  (.node (.node .nil 60 ([.nilFunc]) .nil) 61 ([.nilFunc]) .nil) 62 ([.nilFunc]) (.node (.node .nil 63 ([.nilFunc]) .nil) 64 ([.nilFunc]) .nil)) 65 ([.nilFunc]) (.node 
  (.node (.node .nil 66 ([.nilFunc]) .nil) 67 ([.nilFunc]) .nil) 68 ([.int .u8 0]) (.node (.node .nil 69 ([.nilFunc]) .nil) 70 ([.nilFunc]) .nil)))) 72 ([.nilFunc]) 
  (.node (.node (.node (.node (.node .nil 73 ([.nilFunc]) .nil) 74 ([.nilFunc]) .nil) 75 ([.nilFunc]) (.node (.node .nil 76 ([.int .u64 0]) .nil) 77 ([.int .u8 0]) 
  .nil)) 78 ([.nilFunc]) (.node (.node (.node .nil 79 ([.nilFunc]) .nil) 80 ([.nilFunc]) .nil) 81 ([.nilFunc]) (.node (.node .nil 82 ([.nilFunc]) .nil) 83 ([.nilFunc]) 
  .nil))) 84 ([.nilFunc]) (.node (.node (.node (.node .nil 85 ([.nilFunc]) .nil) 86 ([.nilFunc]) .nil) 87 ([.nilFunc]) (.node (.node .nil 88 ([.nilFunc]) .nil) 89 
  ([.nilFunc]) .nil)) 90 ([.nilFunc]) (.node (.node (.node .nil 91 ([.nilFunc]) .nil) 92 ([.nilFunc]) .nil) 93 ([.nilFunc]) (.node .nil 94 ([.slice none 0 0]) .nil)))))) 
  95 ([.nilFunc]) (.node (.node (.node (.node (.node (.node (.node .nil 96 ([.int .u8 0]) .nil) 98 ([.nilFunc]) .nil) 99 ([.nilFunc]) (.node (.node .nil 100 ([.slice 
  none 0 0]) .nil) 101 ([.nilFunc]) .nil)) 102 ([.nilFunc]) (.node (.node (.node .nil 103 ([.int .i64 0]) .nil) 105 ([.nilFunc]) .nil) 107 ([.nilFunc]) (.node (.node 
  .nil 108 ([.nilFunc]) .nil) 109 ([.nilFunc]) .nil))) 110 ([.nilFunc]) (.node (.node (.node (.node .nil 111 ([.nilFunc]) .nil) 112 ([.nilFunc]) .nil) 113 ([.pointer 
  none]) (.node (.node .nil 114 ([.slice none 0 0]) .nil) 115 ([.nilFunc]) .nil)) 116 ([.int .u64 0, .int .u8 0, .bool false, .int .u64 0, .int .i64 0]) (.node (.node 
  (.node .nil 117 ([.int .u64 0, .int .u8 0, .bool false, .int .u64 0, .int .i64 0]) .nil) 118 ([.nilFunc]) .nil) 119 ([.nilFunc]) (.node (.node .nil 120 ([.nilFunc]) 
  .nil) 121 ([.nilFunc]) .nil)))) 122 ([.nilFunc]) (.node (.node (.node (.node (.node .nil 124 ([.nilFunc]) .nil) 125 ([.slice none 0 0]) .nil) 126 ([.nilFunc]) (.node 
  (.node .nil 127 ([.nilFunc]) .nil) 128 ([.nilFunc]) .nil)) 129 ([.nilFunc]) (.node (.node (.node .nil 131 ([.nilFunc]) .nil) 132 ([.nilFunc]) .nil) 133 ([.nilFunc]) 
  (.node (.node .nil 134 ([.nilFunc]) .nil) 135 ([.nilFunc]) .nil))) 136 ([.int .u64 0, .int .u64 0]) (.node (.node (.node (.node .nil 137 ([.int .u64 0, .int .u64 
  0]) .nil) 138 ([.nilFunc]) .nil) 139 ([.nilFunc]) (.node (.node .nil 140 ([.int .i64 0]) .nil) 142 ([.nilFunc]) .nil)) 143 ([.nilFunc]) (.node (.node (.node .nil 
  144 ([.nilFunc]) .nil) 145 ([.nilFunc]) .nil) 146 ([.nilFunc]) (.node .nil 147 ([.int .u32 0]) .nil))))) 148 ([.nilFunc]) (.node (.node (.node (.node (.node (.node 
  .nil 149 ([.nilFunc]) .nil) 151 ([.nilFunc]) .nil) 153 ([.nilFunc]) (.node (.node .nil 154 ([.nilFunc]) .nil) 155 ([.slice none 0 0]) .nil)) 156 ([.nilFunc]) (.node 
  (.node (.node .nil 157 ([.nilFunc]) .nil) 158 ([.nilFunc]) .nil) 159 ([.nilFunc]) (.node (.node .nil 160 ([.slice none 0 0, .slice none 0 0, .int .i64 0, .bool false]) 
  .nil) 161 ([.slice none 0 0, .slice none 0 0, .int .i64 0, .bool false]) .nil))) 162 ([.nilFunc]) (.node (.node (.node (.node .nil 163 ([.bool false, .int .u64 0, 
  .int .u64 0, .int .i64 0, .bool false]) .nil) 164 ([.bool false, .int .u64 0, .int .u64 0, .int .i64 0, .bool false]) .nil) 165 ([.nilFunc]) (.node (.node .nil 167 
  ([.nilFunc]) .nil) 168 ([.int .u64 0]) .nil)) 169 ([.nilFunc]) (.node (.node (.node .nil 170 ([.nilFunc]) .nil) 171 ([.nilFunc]) .nil) 172 ([.pointer none]) (.node 
  (.node .nil 173 ([.nilFunc]) .nil) 174 ([.nilFunc]) .nil)))) 176 ([.nilFunc]) (.node (.node (.node (.node (.node .nil 177 ([.nilFunc]) .nil) 178 ([.pointer none]) 
  .nil) 180 ([.nilFunc]) (.node (.node .nil 181 ([.nilFunc]) .nil) 183 ([.nilFunc]) .nil)) 184 ([.nilFunc]) (.node (.node (.node .nil 185 ([.nilFunc]) .nil) 186 ([.nilFunc]) 
  .nil) 187 ([.pointer none, .pointer none, .pointer none, .string ByteArray.empty]) (.node (.node .nil 188 ([.pointer none, .pointer none, .pointer none, .string 
  ByteArray.empty]) .nil) 189 ([]) .nil))) 190 ([]) (.node (.node (.node (.node .nil 191 ([]) .nil) 192 ([.int .u8 0]) .nil) 193 ([.int .u8 0]) (.node (.node .nil 
  194 ([.nilFunc]) .nil) 195 ([.pointer none]) .nil)) 196 ([.int .i32 0]) (.node (.node (.node .nil 197 ([.int .i32 0]) .nil) 198 ([.int .u64 0, .int .u64 0, .int 
  .u32 0, .int .u8 0, .int .u8 0, .int .u8 0, .int .u8 0, .nilFunc, .pointer none, .int .i32 0, .int .i32 0]) .nil) 199 ([.int .u64 0, .int .u64 0, .int .u32 0, .int 
  .u8 0, .int .u8 0, .int .u8 0, .int .u8 0, .nilFunc, .pointer none, .int .i32 0, .int .i32 0]) (.node .nil 200 ([.pointer none]) .nil))))))) 
noncomputable def zsB : Bt (List (Option (Nat × Nat))) := (.node (.node (.node (.node .nil 26 ([some (58, 2)]) .nil) 27 ([none, none, some (58, 2), none]) (.node .nil 28 ([none, none, some (58, 2), none]) .nil)) 30 ([some 
  (3, 1)]) (.node (.node .nil 31 ([some (23, 1)]) .nil) 32 ([none, none, some (3, 1), some (23, 1), none]) (.node .nil 33 ([none, none, some (3, 1), some (23, 1), 
  none]) .nil))) 94 ([some (25, 3)]) (.node (.node (.node .nil 100 ([some (28, 4)]) .nil) 114 ([some (113, 1)]) (.node .nil 125 ([some (4, 1)]) .nil)) 155 ([some (22, 
  1)]) (.node (.node .nil 160 ([some (4, 1), some (4, 1), none, none]) .nil) 161 ([some (4, 1), some (4, 1), none, none]) .nil))) 
noncomputable def keepB : Bt (List Nat) := (.node (.node (.node (.node (.node (.node (.node (.node .nil 2 ([]) .nil) 3 ([0, 1, 2, 3, 4, 6, 8, 10, 11, 12, 13, 14, 15, 16, 19, 23]) .nil) 4 ([0, 1, 2, 3, 4, 
  5, 6, 7, 10, 20]) (.node (.node .nil 5 ([0, 1, 2, 3, 4, 5, 6, 9, 19]) .nil) 6 ([0, 1, 2, 3, 4, 6, 7, 8, 9, 12, 22]) .nil)) 7 ([0, 1, 2, 3, 4, 5, 6, 9, 22, 38, 45, 
  75, 80, 93]) (.node (.node (.node .nil 8 ([0, 1, 2, 3, 21]) .nil) 9 ([0, 1, 2, 3, 4, 16]) .nil) 10 ([0, 1, 2, 3, 4, 5, 33, 38, 66]) (.node (.node .nil 11 ([0, 2]) 
  .nil) 12 ([0, 2]) .nil))) 13 ([0, 1, 2, 4, 5, 6, 23, 43]) (.node (.node (.node (.node .nil 14 ([0, 1, 2, 4, 5, 6, 7, 8, 9, 26, 52, 55]) .nil) 15 ([0, 1, 2, 4, 12]) 
  .nil) 16 ([0, 1, 2, 4, 5, 6, 16]) (.node (.node .nil 17 ([0, 1, 2, 3, 5, 8, 17, 18, 19, 20]) .nil) 18 ([0, 1, 2, 3, 4, 5, 9, 23]) .nil)) 19 ([0, 1, 2, 3, 6]) (.node 
  (.node (.node .nil 20 ([0, 1, 2, 3, 4, 8]) .nil) 21 ([0, 1, 2, 3, 5, 8, 11, 12, 13, 14]) .nil) 22 ([0, 1, 2, 3, 4, 5, 9, 14]) (.node .nil 23 ([0, 1, 2, 3, 5, 7, 
  23, 24, 25, 26, 43]) .nil)))) 24 ([0, 1, 2, 3, 5, 40, 45, 89]) (.node (.node (.node (.node (.node .nil 25 ([0, 1, 2, 3, 4, 5, 6, 10]) .nil) 26 ([0, 1, 2, 3, 4, 5, 
  6, 7, 8, 9, 10, 11, 21, 49, 79, 88]) .nil) 27 ([0, 1, 2, 3, 4]) (.node (.node .nil 28 ([0, 1, 2, 3, 4, 5, 6, 7, 8, 9, 10, 14, 56]) .nil) 29 ([0, 1, 2, 3, 4, 5, 6, 
  7, 8, 9, 10, 11, 12, 13, 14, 15, 25, 69, 80, 98, 110, 128]) .nil)) 30 ([0, 1, 2, 3, 4, 5, 9]) (.node (.node (.node .nil 31 ([0, 1, 2, 3, 4, 5, 6, 7, 8, 9, 10, 11, 
  13, 14, 15, 26, 40, 63, 73, 104]) .nil) 32 ([0, 1, 2, 4, 5, 6, 7, 8, 10, 13, 34, 35, 36, 37, 43]) .nil) 33 ([0, 1, 2, 4, 5, 6, 7, 8, 9, 10, 15, 26, 33, 62, 67]) 
  (.node (.node .nil 34 ([0, 1, 4]) .nil) 35 ([0]) .nil))) 36 ([0, 1, 2, 9, 13, 29]) (.node (.node (.node (.node .nil 37 ([0, 1, 2, 3, 4, 5, 25, 43, 69]) .nil) 38 
  ([0, 2, 3, 5, 7, 8, 9, 10, 28, 31]) .nil) 39 ([0, 2, 3]) (.node (.node .nil 40 ([0]) .nil) 41 ([0, 1, 4]) .nil)) 42 ([0, 2]) (.node (.node (.node .nil 43 ([0, 1, 
  2, 6, 7]) .nil) 44 ([0, 2, 4]) .nil) 45 ([0, 1, 2, 3, 24, 28, 32]) (.node .nil 46 ([0, 2, 3]) .nil))))) 47 ([0]) (.node (.node (.node (.node (.node (.node .nil 48 
  ([0, 1, 2, 6, 7]) .nil) 49 ([0, 1, 2, 6, 7]) .nil) 50 ([0, 2]) (.node (.node .nil 51 ([0, 1, 4, 5, 6, 7, 15, 22, 25]) .nil) 52 ([0, 2]) .nil)) 53 ([0, 2, 4]) (.node 
  (.node (.node .nil 54 ([0, 2]) .nil) 55 ([0, 2, 4]) .nil) 56 ([0, 1, 2, 3, 7]) (.node (.node .nil 57 ([0, 2]) .nil) 58 ([0, 1, 4]) .nil))) 59 ([0, 2, 3]) (.node 
  (.node (.node (.node .nil 60 ([0, 2]) .nil) 61 ([0, 2, 4, 5, 17, 19, 25, 27]) .nil) 62 ([0, 1, 2, 6]) (.node (.node .nil 63 ([0, 1, 2, 6, 7, 8, 9, 10, 18, 35, 65]) 
  .nil) 64 ([0, 1, 2, 5, 6, 10]) .nil)) 65 ([0, 1, 2, 3, 4, 5, 6, 7, 19, 32, 68]) (.node (.node (.node .nil 66 ([0, 1, 4]) .nil) 67 ([0, 1, 2, 4, 5, 10, 19]) .nil) 
  68 ([0, 1, 2]) (.node .nil 69 ([0, 1, 2, 6, 7]) .nil)))) 70 ([0, 1, 2, 3, 6, 7, 9]) (.node (.node (.node (.node (.node .nil 71 ([0, 1, 2, 3, 4, 5, 8, 9, 10]) .nil) 
  72 ([0, 1, 4]) .nil) 73 ([0, 1, 2]) (.node (.node .nil 74 ([0, 1, 4, 5, 19]) .nil) 75 ([0, 1, 4, 5, 6]) .nil)) 76 ([0, 1, 2, 3, 4, 5]) (.node (.node (.node .nil 
  77 ([0, 1, 2, 3, 4, 5, 6, 17]) .nil) 78 ([0, 1]) .nil) 79 ([0, 1, 2, 3, 4, 5]) (.node (.node .nil 80 ([0, 1, 4, 5, 6, 7, 13, 18, 22]) .nil) 81 ([0, 1, 4]) .nil))) 
  82 ([0, 1, 2, 3, 4]) (.node (.node (.node (.node .nil 83 ([0, 1, 4, 5, 6, 11, 12, 13, 16, 19]) .nil) 84 ([0, 1, 3, 4]) .nil) 85 ([0, 1, 2, 4, 26, 30, 31, 32, 33, 
  40]) (.node (.node .nil 86 ([0]) .nil) 87 ([0]) .nil)) 88 ([0, 1, 4, 5, 6, 7, 12, 19, 29]) (.node (.node (.node .nil 89 ([0, 1, 2]) .nil) 90 ([0, 1, 4]) .nil) 91 
  ([0, 1, 2]) (.node .nil 92 ([0, 2, 4]) .nil)))))) 93 ([0]) (.node (.node (.node (.node (.node (.node (.node .nil 94 ([0, 2]) .nil) 95 ([0, 2, 4, 5, 12, 19, 22, 29]) 
  .nil) 96 ([0, 1, 4, 5, 7, 10, 15, 16, 17, 18, 22, 27]) (.node (.node .nil 97 ([0, 1, 4]) .nil) 98 ([0, 1, 2, 6, 7, 8, 9, 14, 19, 38, 43, 48, 65, 77, 82, 105]) .nil)) 
  99 ([0, 2]) (.node (.node (.node .nil 100 ([0, 1, 4, 5, 6]) .nil) 101 ([0, 1, 2, 6, 7, 8, 9, 10, 11, 12, 13, 14, 15, 16, 22, 35, 37, 40, 53, 56, 79, 86, 113, 118]) 
  .nil) 102 ([0, 1, 2, 6, 7, 8, 9, 10, 11, 12, 18, 32, 43]) (.node (.node .nil 103 ([0, 2, 3, 4, 5, 6, 18]) .nil) 104 ([0, 1, 4]) .nil))) 105 ([0, 1, 2]) (.node (.node 
  (.node (.node .nil 106 ([0, 1, 4, 5, 7, 8, 9, 10, 11]) .nil) 107 ([0, 1, 2, 6, 7, 8, 18, 24]) .nil) 108 ([0, 2, 3, 4, 5]) (.node (.node .nil 109 ([0, 1, 2, 6, 7, 
  8, 9, 10, 20, 25, 37]) .nil) 110 ([0, 1, 4]) .nil)) 111 ([0, 1, 2, 5, 7]) (.node (.node (.node .nil 112 ([0, 1, 4, 5, 6, 7, 24]) .nil) 113 ([0, 1, 2, 6, 7, 8, 9, 
  13, 30, 35, 54]) .nil) 114 ([0, 2, 3, 9]) (.node .nil 115 ([0, 1, 2, 3, 4, 10, 11, 12, 13, 14, 15, 16, 17, 18, 19, 20, 25, 32, 39, 56, 75, 80, 97, 125]) .nil)))) 
  116 ([0, 2]) (.node (.node (.node (.node (.node .nil 117 ([0, 2]) .nil) 118 ([0, 1, 3, 4, 5, 7, 8, 9, 16]) .nil) 119 ([0, 1, 4, 5, 6]) (.node (.node .nil 120 ([0, 
  1, 4, 5, 7, 8, 9, 16]) .nil) 121 ([0, 2, 3, 4]) .nil)) 122 ([0]) (.node (.node (.node .nil 123 ([0, 2, 3, 4]) .nil) 124 ([0, 1, 2, 3, 4, 6]) .nil) 125 ([0, 1]) (.node 
  (.node .nil 126 ([0, 2, 3]) .nil) 127 ([0, 1, 2, 3, 4, 6, 7, 8, 9, 10, 11, 33, 48, 52]) .nil))) 128 ([0, 1, 4]) (.node (.node (.node (.node .nil 129 ([0, 2]) .nil) 
  130 ([0, 2, 3, 5, 6, 7, 17, 23]) .nil) 131 ([0, 1, 4, 5, 6, 9]) (.node (.node .nil 132 ([0, 2, 3]) .nil) 133 ([0, 1, 4, 5, 6, 7, 8, 9, 22]) .nil)) 134 ([0, 1, 4, 
  5, 6, 7, 15, 26, 27]) (.node (.node (.node .nil 135 ([0, 1, 2, 6, 7, 8, 9, 10, 11, 12, 15]) .nil) 136 ([0, 2, 3, 15]) .nil) 137 ([0, 2]) (.node .nil 138 ([0, 1, 
  2, 3, 4, 10, 11, 12, 16]) .nil))))) 139 ([0, 2]) (.node (.node (.node (.node (.node (.node .nil 140 ([0, 1, 4, 5, 6, 10, 16]) .nil) 141 ([0, 1, 4, 5, 7, 8, 9, 16]) 
  .nil) 142 ([0, 1, 2, 3, 4, 6, 10, 11, 12, 13, 18]) (.node (.node .nil 143 ([0, 1, 4, 5, 6]) .nil) 144 ([0, 1, 2, 3, 8, 9, 14, 34]) .nil)) 145 ([0, 1, 2, 3, 4, 10, 
  11, 12, 13, 14, 15, 16, 17, 18, 19, 20, 21, 22, 23, 24, 28, 33, 50, 58, 80, 85, 103, 110, 140, 151, 171, 185, 199, 213]) (.node (.node (.node .nil 146 ([0, 1, 2, 
  3, 8, 9, 10, 11, 12, 21, 33]) .nil) 147 ([0, 1, 2, 8, 9, 10, 11, 12, 17, 35, 45]) .nil) 148 ([0, 1, 2, 3, 8, 9, 10, 11, 12, 13, 14, 34, 36, 55, 57, 60]) (.node (.node 
  .nil 149 ([0, 1, 2, 8, 9, 15]) .nil) 150 ([0, 1, 2, 3, 8, 9, 10, 11, 12, 16, 36, 41, 45, 65, 69, 84, 104, 109, 124]) .nil))) 151 ([0, 1, 2, 3, 4, 10, 11, 12, 47, 
  65, 70]) (.node (.node (.node (.node .nil 152 ([0, 1, 2, 3, 4, 10, 11, 12, 13, 47, 66, 71, 120, 139, 144]) .nil) 153 ([0, 2, 4, 8]) .nil) 154 ([0, 2, 4, 8, 14]) 
  (.node (.node .nil 155 ([0, 2, 3, 5, 6, 14, 15, 21]) .nil) 156 ([0, 1, 2, 4, 6, 14, 17]) .nil)) 157 ([0, 1, 2, 4, 5, 6, 8, 22, 26]) (.node (.node (.node .nil 158 
  ([0, 1, 2, 3, 4, 5, 6, 7, 8]) .nil) 159 ([0, 1, 2, 3, 4, 5, 6, 7, 8]) .nil) 160 ([0, 2, 3, 4, 5, 9, 13]) (.node .nil 161 ([0, 1, 4]) .nil)))) 162 ([0, 1, 2, 6, 7, 
  13]) (.node (.node (.node (.node (.node .nil 163 ([0, 1, 4, 13]) .nil) 164 ([0, 1, 2, 4, 6, 7, 8, 9, 10, 16, 21, 28]) .nil) 165 ([0, 1, 2, 5]) (.node (.node .nil 
  166 ([0, 1, 2, 4, 5, 6, 7, 8, 9, 10, 11, 12, 13, 14, 15, 16, 36, 71, 75, 81, 90, 95, 100]) .nil) 167 ([0, 1, 4, 5, 6, 7, 8, 9, 10, 11, 12, 13]) .nil)) 168 ([0, 1, 
  2, 3, 4, 10, 11, 20, 23]) (.node (.node (.node .nil 169 ([0, 1, 2, 3, 4, 10, 11, 18, 40, 58]) .nil) 170 ([0, 2]) .nil) 171 ([0, 2]) (.node .nil 172 ([0, 1, 2, 3, 
  8]) .nil))) 173 ([0, 1, 2, 3, 4, 5, 12]) (.node (.node (.node (.node .nil 176 ([0, 1, 2, 4, 5, 6, 7, 8, 9, 10, 11, 12, 13, 14, 15, 16, 32, 38, 42, 46, 53, 85, 89, 
  94]) .nil) 177 ([0, 1, 2, 3, 4, 5, 10, 11, 19]) .nil) 178 ([0, 1, 2, 4, 5, 6, 12]) (.node (.node .nil 179 ([0, 1, 2, 3, 10, 13]) .nil) 180 ([0, 1, 2, 3, 4, 10, 11, 
  22]) .nil)) 181 ([0, 1, 2, 3, 4, 5, 6, 7, 10, 26]) (.node (.node (.node .nil 182 ([0, 2, 3, 4, 5, 12]) .nil) 183 ([0, 1, 2, 3, 6, 7, 8, 9, 10, 39]) .nil) 184 ([0, 
  1, 2, 4]) (.node .nil 185 ([0, 1, 2, 4]) .nil))))))) 
noncomputable def dmB : Bt (Nat) := (.node (.node (.node (.node (.node (.node (.node .nil 3080 (5) .nil) 3081 (5) (.node .nil 3082 (3) .nil)) 3083 (31) (.node (.node .nil 4102 (6) .nil) 4103 (6) (.node 
  .nil 5126 (6) .nil))) 6150 (6) (.node (.node (.node .nil 6151 (6) .nil) 7177 (6) (.node .nil 7185 (10) .nil)) 8198 (92) (.node (.node .nil 9221 (9) .nil) 9222 (9) 
  .nil))) 10246 (24) (.node (.node (.node (.node .nil 13317 (9) .nil) 14340 (5) (.node .nil 14341 (4) .nil)) 15364 (4) (.node (.node .nil 16389 (4) .nil) 17411 (7) 
  .nil)) 17415 (9) (.node (.node (.node .nil 18436 (9) .nil) 18440 (9) (.node .nil 19460 (8) .nil)) 20485 (8) (.node (.node .nil 24584 (37) .nil) 25603 (12) .nil)))) 
  25605 (7) (.node (.node (.node (.node (.node .nil 26629 (10) .nil) 26630 (5) (.node .nil 26635 (6) .nil)) 26636 (6) (.node (.node .nil 26637 (6) .nil) 27649 (3) 
  (.node .nil 28675 (3) .nil))) 28676 (23) (.node (.node (.node .nil 28682 (7) .nil) 29701 (10) (.node .nil 29703 (7) .nil)) 29704 (7) (.node (.node .nil 29713 (6) 
  .nil) 29714 (6) .nil))) 29725 (6) (.node (.node (.node (.node .nil 30725 (5) .nil) 31749 (9) (.node .nil 31754 (6) .nil)) 31759 (8) (.node (.node .nil 32783 (5) 
  .nil) 33804 (17) .nil)) 33808 (8) (.node (.node (.node .nil 33809 (8) .nil) 33810 (8) (.node .nil 37890 (8) .nil)) 37896 (8) (.node (.node .nil 37897 (8) .nil) 38918 
  (11) .nil))))) 64517 (20) (.node (.node (.node (.node (.node (.node .nil 64518 (16) .nil) 64519 (12) (.node .nil 64520 (12) .nil)) 64521 (12) (.node (.node .nil 
  65541 (4) .nil) 66568 (22) (.node .nil 66571 (16) .nil))) 71683 (4) (.node (.node (.node .nil 72707 (4) .nil) 78853 (14) (.node .nil 80897 (11) .nil)) 87041 (20) 
  (.node (.node .nil 111625 (15) .nil) 113666 (4) .nil))) 117777 (13) (.node (.node (.node (.node .nil 120836 (5) .nil) 130050 (15) (.node .nil 147460 (14) .nil)) 
  147462 (9999) (.node (.node .nil 148485 (9) .nil) 148491 (9999) .nil)) 148497 (9) (.node (.node (.node .nil 148503 (9999) .nil) 148515 (11) (.node .nil 149514 (9999) 
  .nil)) 150538 (9999) (.node (.node .nil 152579 (9999) .nil) 153605 (14) .nil)))) 153611 (9999) (.node (.node (.node (.node (.node .nil 153616 (10) .nil) 153617 (9999) 
  (.node .nil 153622 (10) .nil)) 153623 (9999) (.node (.node .nil 154625 (9999) .nil) 154627 (13) (.node .nil 154629 (13) .nil))) 154632 (9999) (.node (.node (.node 
  .nil 155649 (9999) .nil) 155651 (13) (.node .nil 155653 (13) .nil)) 155656 (9999) (.node (.node .nil 155658 (9999) .nil) 155661 (13) .nil))) 155663 (13) (.node (.node 
  (.node (.node .nil 155666 (9999) .nil) 155669 (9999) (.node .nil 159752 (14) .nil)) 160778 (25) (.node (.node .nil 169987 (7) .nil) 173059 (19) .nil)) 173061 (13) 
  (.node (.node (.node .nil 173062 (9999) .nil) 175105 (7) (.node .nil 175106 (7) .nil)) 175107 (7) (.node (.node .nil 183299 (9999) .nil) 184321 (9) .nil)))))) 
noncomputable def fnsB : Bt (Func) := (.node (.node (.node (.node (.node (.node (.node (.node .nil 2 (Tryz.f2) .nil) 3 (Tryz.f3) .nil) 4 (Tryz.f4) (.node (.node .nil 5 (Tryz.f5) .nil) 6 (Tryz.f6) .nil)) 
  7 (Tryz.f7) (.node (.node (.node .nil 8 (Tryz.f8) .nil) 9 (Tryz.f9) .nil) 10 (Tryz.f10) (.node (.node .nil 11 (Tryz.f11) .nil) 12 (Tryz.f12) .nil))) 13 (Tryz.f13) 
  (.node (.node (.node (.node .nil 14 (Tryz.f14) .nil) 15 (Tryz.f15) .nil) 16 (Tryz.f16) (.node (.node .nil 17 (Tryz.f17) .nil) 18 (Tryz.f18) .nil)) 19 (Tryz.f19) 
  (.node (.node (.node .nil 20 (Tryz.f20) .nil) 21 (Tryz.f21) .nil) 22 (Tryz.f22) (.node .nil 23 (Tryz.f23) .nil)))) 24 (Tryz.f24) (.node (.node (.node (.node (.node 
  .nil 25 (Tryz.f25) .nil) 26 (Tryz.f26) .nil) 27 (Tryz.f27) (.node (.node .nil 28 (Tryz.f28) .nil) 29 (Tryz.f29) .nil)) 30 (Tryz.f30) (.node (.node (.node .nil 31 
  (Tryz.f31) .nil) 32 (Tryz.f32) .nil) 33 (Tryz.f33) (.node (.node .nil 34 (Tryz.f34) .nil) 35 (Tryz.f35) .nil))) 36 (Tryz.f36) (.node (.node (.node (.node .nil 37 
  (Tryz.f37) .nil) 38 (Tryz.f38) .nil) 39 (Tryz.f39) (.node (.node .nil 40 (Tryz.f40) .nil) 41 (Tryz.f41) .nil)) 42 (Tryz.f42) (.node (.node (.node .nil 43 (Tryz.f43) 
  .nil) 44 (Tryz.f44) .nil) 45 (Tryz.f45) (.node .nil 46 (Tryz.f46) .nil))))) 47 (Tryz.f47) (.node (.node (.node (.node (.node (.node .nil 48 (Tryz.f48) .nil) 49 (Tryz.f49) 
  .nil) 50 (Tryz.f50) (.node (.node .nil 51 (Tryz.f51) .nil) 52 (Tryz.f52) .nil)) 53 (Tryz.f53) (.node (.node (.node .nil 54 (Tryz.f54) .nil) 55 (Tryz.f55) .nil) 56 
  (Tryz.f56) (.node (.node .nil 57 (Tryz.f57) .nil) 58 (Tryz.f58) .nil))) 59 (Tryz.f59) (.node (.node (.node (.node .nil 60 (Tryz.f60) .nil) 61 (Tryz.f61) .nil) 62 
  (Tryz.f62) (.node (.node .nil 63 (Tryz.f63) .nil) 64 (Tryz.f64) .nil)) 65 (Tryz.f65) (.node (.node (.node .nil 66 (Tryz.f66) .nil) 67 (Tryz.f67) .nil) 68 (Tryz.f68) 
  (.node .nil 69 (Tryz.f69) .nil)))) 70 (Tryz.f70) (.node (.node (.node (.node (.node .nil 71 (Tryz.f71) .nil) 72 (Tryz.f72) .nil) 73 (Tryz.f73) (.node (.node .nil 
  74 (Tryz.f74) .nil) 75 (Tryz.f75) .nil)) 76 (Tryz.f76) (.node (.node (.node .nil 77 (Tryz.f77) .nil) 78 (Tryz.f78) .nil) 79 (Tryz.f79) (.node (.node .nil 80 (Tryz.f80) 
  .nil) 81 (Tryz.f81) .nil))) 82 (Tryz.f82) (.node (.node (.node (.node .nil 83 (Tryz.f83) .nil) 84 (Tryz.f84) .nil) 85 (Tryz.f85) (.node (.node .nil 86 (Tryz.f86) 
  .nil) 87 (Tryz.f87) .nil)) 88 (Tryz.f88) (.node (.node (.node .nil 89 (Tryz.f89) .nil) 90 (Tryz.f90) .nil) 91 (Tryz.f91) (.node .nil 92 (Tryz.f92) .nil)))))) 93 
  (Tryz.f93) (.node (.node (.node (.node (.node (.node (.node .nil 94 (Tryz.f94) .nil) 95 (Tryz.f95) .nil) 96 (Tryz.f96) (.node (.node .nil 97 (Tryz.f97) .nil) 98 
  (Tryz.f98) .nil)) 99 (Tryz.f99) (.node (.node (.node .nil 100 (Tryz.f100) .nil) 101 (Tryz.f101) .nil) 102 (Tryz.f102) (.node (.node .nil 103 (Tryz.f103) .nil) 104 
  (Tryz.f104) .nil))) 105 (Tryz.f105) (.node (.node (.node (.node .nil 106 (Tryz.f106) .nil) 107 (Tryz.f107) .nil) 108 (Tryz.f108) (.node (.node .nil 109 (Tryz.f109) 
  .nil) 110 (Tryz.f110) .nil)) 111 (Tryz.f111) (.node (.node (.node .nil 112 (Tryz.f112) .nil) 113 (Tryz.f113) .nil) 114 (Tryz.f114) (.node .nil 115 (Tryz.f115) .nil)))) 
  116 (Tryz.f116) (.node (.node (.node (.node (.node .nil 117 (Tryz.f117) .nil) 118 (Tryz.f118) .nil) 119 (Tryz.f119) (.node (.node .nil 120 (Tryz.f120) .nil) 121 
  (Tryz.f121) .nil)) 122 (Tryz.f122) (.node (.node (.node .nil 123 (Tryz.f123) .nil) 124 (Tryz.f124) .nil) 125 (Tryz.f125) (.node (.node .nil 126 (Tryz.f126) .nil) 
  127 (Tryz.f127) .nil))) 128 (Tryz.f128) (.node (.node (.node (.node .nil 129 (Tryz.f129) .nil) 130 (Tryz.f130) .nil) 131 (Tryz.f131) (.node (.node .nil 132 (Tryz.f132) 
  .nil) 133 (Tryz.f133) .nil)) 134 (Tryz.f134) (.node (.node (.node .nil 135 (Tryz.f135) .nil) 136 (Tryz.f136) .nil) 137 (Tryz.f137) (.node .nil 138 (Tryz.f138) .nil))))) 
  139 (Tryz.f139) (.node (.node (.node (.node (.node (.node .nil 140 (Tryz.f140) .nil) 141 (Tryz.f141) .nil) 142 (Tryz.f142) (.node (.node .nil 143 (Tryz.f143) .nil) 
  144 (Tryz.f144) .nil)) 145 (Tryz.f145) (.node (.node (.node .nil 146 (Tryz.f146) .nil) 147 (Tryz.f147) .nil) 148 (Tryz.f148) (.node (.node .nil 149 (Tryz.f149) .nil) 
  150 (Tryz.f150) .nil))) 151 (Tryz.f151) (.node (.node (.node (.node .nil 152 (Tryz.f152) .nil) 153 (Tryz.f153) .nil) 154 (Tryz.f154) (.node (.node .nil 155 (Tryz.f155) 
  .nil) 156 (Tryz.f156) .nil)) 157 (Tryz.f157) (.node (.node (.node .nil 158 (Tryz.f158) .nil) 159 (Tryz.f159) .nil) 160 (Tryz.f160) (.node .nil 161 (Tryz.f161) .nil)))) 
  162 (Tryz.f162) (.node (.node (.node (.node (.node .nil 163 (Tryz.f163) .nil) 164 (Tryz.f164) .nil) 165 (Tryz.f165) (.node (.node .nil 166 (Tryz.f166) .nil) 167 
  (Tryz.f167) .nil)) 168 (Tryz.f168) (.node (.node (.node .nil 169 (Tryz.f169) .nil) 170 (Tryz.f170) .nil) 171 (Tryz.f171) (.node .nil 172 (Tryz.f172) .nil))) 173 
  (Tryz.f173) (.node (.node (.node (.node .nil 176 (Tryz.f176) .nil) 177 (Tryz.f177) .nil) 178 (Tryz.f178) (.node (.node .nil 179 (Tryz.f179) .nil) 180 (Tryz.f180) 
  .nil)) 181 (Tryz.f181) (.node (.node (.node .nil 182 (Tryz.f182) .nil) 183 (Tryz.f183) .nil) 184 (Tryz.f184) (.node .nil 185 (Tryz.f185) .nil))))))) 
noncomputable def mdB : Bt (Nat) := (.node (.node (.node (.node (.node .nil 36 (4) .nil) 63 (2) .nil) 64 (2) (.node .nil 70 (2) .nil)) 71 (2) (.node (.node .nil 76 (1) .nil) 78 (3) (.node .nil 81 (3) 
  .nil))) 84 (3) (.node (.node (.node (.node .nil 88 (4) .nil) 111 (2) .nil) 113 (3) (.node .nil 115 (3) .nil)) 118 (3) (.node (.node .nil 120 (3) .nil) 141 (3) (.node 
  .nil 144 (3) .nil)))) 
noncomputable def smlB : Bt (Unit) := (.node (.node (.node (.node (.node (.node (.node (.node .nil 0 (()) .nil) 1 (()) (.node .nil 2 (()) .nil)) 3 (()) (.node (.node .nil 4 (()) .nil) 5 (()) .nil)) 6 
  (()) (.node (.node (.node .nil 7 (()) .nil) 8 (()) .nil) 9 (()) (.node (.node .nil 10 (()) .nil) 11 (()) .nil))) 12 (()) (.node (.node (.node (.node .nil 13 (()) 
  .nil) 14 (()) (.node .nil 15 (()) .nil)) 16 (()) (.node (.node .nil 17 (()) .nil) 18 (()) .nil)) 19 (()) (.node (.node (.node .nil 20 (()) .nil) 21 (()) .nil) 22 
  (()) (.node (.node .nil 23 (()) .nil) 24 (()) .nil)))) 25 (()) (.node (.node (.node (.node (.node .nil 26 (()) .nil) 27 (()) (.node .nil 28 (()) .nil)) 29 (()) (.node 
  (.node .nil 30 (()) .nil) 31 (()) .nil)) 32 (()) (.node (.node (.node .nil 33 (()) .nil) 34 (()) .nil) 35 (()) (.node (.node .nil 36 (()) .nil) 37 (()) .nil))) 38 
  (()) (.node (.node (.node (.node .nil 39 (()) .nil) 40 (()) .nil) 41 (()) (.node (.node .nil 42 (()) .nil) 43 (()) .nil)) 44 (()) (.node (.node (.node .nil 45 (()) 
  .nil) 46 (()) .nil) 47 (()) (.node (.node .nil 48 (()) .nil) 49 (()) .nil))))) 50 (()) (.node (.node (.node (.node (.node (.node .nil 51 (()) .nil) 52 (()) (.node 
  .nil 53 (()) .nil)) 54 (()) (.node (.node .nil 55 (()) .nil) 56 (()) .nil)) 57 (()) (.node (.node (.node .nil 58 (()) .nil) 59 (()) .nil) 60 (()) (.node (.node .nil 
  61 (()) .nil) 62 (()) .nil))) 63 (()) (.node (.node (.node (.node .nil 64 (()) .nil) 65 (()) .nil) 66 (()) (.node (.node .nil 67 (()) .nil) 68 (()) .nil)) 69 (()) 
  (.node (.node (.node .nil 70 (()) .nil) 71 (()) .nil) 72 (()) (.node (.node .nil 73 (()) .nil) 74 (()) .nil)))) 75 (()) (.node (.node (.node (.node (.node .nil 76 
  (()) .nil) 77 (()) (.node .nil 78 (()) .nil)) 79 (()) (.node (.node .nil 80 (()) .nil) 81 (()) .nil)) 82 (()) (.node (.node (.node .nil 83 (()) .nil) 84 (()) .nil) 
  85 (()) (.node (.node .nil 86 (()) .nil) 87 (()) .nil))) 88 (()) (.node (.node (.node (.node .nil 89 (()) .nil) 90 (()) .nil) 91 (()) (.node (.node .nil 92 (()) 
  .nil) 93 (()) .nil)) 94 (()) (.node (.node (.node .nil 95 (()) .nil) 96 (()) .nil) 97 (()) (.node (.node .nil 98 (()) .nil) 99 (()) .nil)))))) 100 (()) (.node (.node 
  (.node (.node (.node (.node (.node .nil 101 (()) .nil) 102 (()) (.node .nil 103 (()) .nil)) 104 (()) (.node (.node .nil 105 (()) .nil) 106 (()) .nil)) 107 (()) (.node 
  (.node (.node .nil 108 (()) .nil) 109 (()) .nil) 110 (()) (.node (.node .nil 111 (()) .nil) 112 (()) .nil))) 113 (()) (.node (.node (.node (.node .nil 114 (()) .nil) 
  115 (()) (.node .nil 116 (()) .nil)) 117 (()) (.node (.node .nil 118 (()) .nil) 119 (()) .nil)) 120 (()) (.node (.node (.node .nil 121 (()) .nil) 122 (()) .nil) 
  123 (()) (.node (.node .nil 124 (()) .nil) 125 (()) .nil)))) 126 (()) (.node (.node (.node (.node (.node .nil 127 (()) .nil) 128 (()) (.node .nil 129 (()) .nil)) 
  130 (()) (.node (.node .nil 131 (()) .nil) 132 (()) .nil)) 133 (()) (.node (.node (.node .nil 134 (()) .nil) 135 (()) .nil) 136 (()) (.node (.node .nil 137 (()) 
  .nil) 138 (()) .nil))) 139 (()) (.node (.node (.node (.node .nil 140 (()) .nil) 141 (()) .nil) 142 (()) (.node (.node .nil 143 (()) .nil) 144 (()) .nil)) 145 (()) 
  (.node (.node (.node .nil 146 (()) .nil) 147 (()) .nil) 148 (()) (.node (.node .nil 149 (()) .nil) 150 (()) .nil))))) 151 (()) (.node (.node (.node (.node (.node 
  (.node .nil 152 (()) .nil) 153 (()) (.node .nil 154 (()) .nil)) 155 (()) (.node (.node .nil 156 (()) .nil) 157 (()) .nil)) 158 (()) (.node (.node (.node .nil 159 
  (()) .nil) 160 (()) .nil) 161 (()) (.node (.node .nil 162 (()) .nil) 163 (()) .nil))) 164 (()) (.node (.node (.node (.node .nil 165 (()) .nil) 166 (()) .nil) 167 
  (()) (.node (.node .nil 168 (()) .nil) 169 (()) .nil)) 170 (()) (.node (.node (.node .nil 171 (()) .nil) 172 (()) .nil) 173 (()) (.node (.node .nil 174 (()) .nil) 
  175 (()) .nil)))) 176 (()) (.node (.node (.node (.node (.node .nil 177 (()) .nil) 178 (()) (.node .nil 179 (()) .nil)) 180 (()) (.node (.node .nil 181 (()) .nil) 
  182 (()) .nil)) 183 (()) (.node (.node (.node .nil 184 (()) .nil) 185 (()) .nil) 186 (()) (.node (.node .nil 187 (()) .nil) 188 (()) .nil))) 189 (()) (.node (.node 
  (.node (.node .nil 190 (()) .nil) 191 (()) .nil) 192 (()) (.node (.node .nil 193 (()) .nil) 194 (()) .nil)) 195 (()) (.node (.node (.node .nil 196 (()) .nil) 197 
  (()) .nil) 198 (()) (.node (.node .nil 199 (()) .nil) 200 (()) .nil))))))) 
noncomputable def goB : Bt (Unit) := (.node (.node (.node (.node (.node (.node (.node (.node .nil 2 (()) .nil) 3 (()) .nil) 4 (()) (.node (.node .nil 5 (()) .nil) 6 (()) .nil)) 7 (()) (.node (.node 
  (.node .nil 8 (()) .nil) 9 (()) .nil) 10 (()) (.node (.node .nil 11 (()) .nil) 12 (()) .nil))) 13 (()) (.node (.node (.node (.node .nil 14 (()) .nil) 15 (()) .nil) 
  16 (()) (.node (.node .nil 17 (()) .nil) 18 (()) .nil)) 19 (()) (.node (.node (.node .nil 20 (()) .nil) 21 (()) .nil) 22 (()) (.node .nil 23 (()) .nil)))) 24 (()) 
  (.node (.node (.node (.node (.node .nil 25 (()) .nil) 26 (()) .nil) 27 (()) (.node (.node .nil 28 (()) .nil) 29 (()) .nil)) 30 (()) (.node (.node (.node .nil 31 
  (()) .nil) 32 (()) .nil) 33 (()) (.node (.node .nil 34 (()) .nil) 35 (()) .nil))) 36 (()) (.node (.node (.node (.node .nil 37 (()) .nil) 38 (()) .nil) 39 (()) (.node 
  (.node .nil 40 (()) .nil) 41 (()) .nil)) 42 (()) (.node (.node (.node .nil 43 (()) .nil) 44 (()) .nil) 45 (()) (.node .nil 46 (()) .nil))))) 47 (()) (.node (.node 
  (.node (.node (.node (.node .nil 48 (()) .nil) 49 (()) .nil) 50 (()) (.node (.node .nil 51 (()) .nil) 52 (()) .nil)) 53 (()) (.node (.node (.node .nil 54 (()) .nil) 
  55 (()) .nil) 56 (()) (.node (.node .nil 57 (()) .nil) 58 (()) .nil))) 59 (()) (.node (.node (.node (.node .nil 60 (()) .nil) 61 (()) .nil) 62 (()) (.node (.node 
  .nil 63 (()) .nil) 64 (()) .nil)) 65 (()) (.node (.node (.node .nil 66 (()) .nil) 67 (()) .nil) 68 (()) (.node .nil 69 (()) .nil)))) 70 (()) (.node (.node (.node 
  (.node (.node .nil 71 (()) .nil) 72 (()) .nil) 73 (()) (.node (.node .nil 74 (()) .nil) 75 (()) .nil)) 76 (()) (.node (.node (.node .nil 77 (()) .nil) 78 (()) .nil) 
  79 (()) (.node (.node .nil 80 (()) .nil) 81 (()) .nil))) 82 (()) (.node (.node (.node (.node .nil 83 (()) .nil) 84 (()) .nil) 85 (()) (.node (.node .nil 86 (()) 
  .nil) 87 (()) .nil)) 88 (()) (.node (.node (.node .nil 89 (()) .nil) 90 (()) .nil) 91 (()) (.node .nil 92 (()) .nil)))))) 93 (()) (.node (.node (.node (.node (.node 
  (.node (.node .nil 94 (()) .nil) 95 (()) .nil) 96 (()) (.node (.node .nil 97 (()) .nil) 98 (()) .nil)) 99 (()) (.node (.node (.node .nil 100 (()) .nil) 101 (()) 
  .nil) 102 (()) (.node (.node .nil 103 (()) .nil) 104 (()) .nil))) 105 (()) (.node (.node (.node (.node .nil 106 (()) .nil) 107 (()) .nil) 108 (()) (.node (.node 
  .nil 109 (()) .nil) 110 (()) .nil)) 111 (()) (.node (.node (.node .nil 112 (()) .nil) 113 (()) .nil) 114 (()) (.node .nil 115 (()) .nil)))) 116 (()) (.node (.node 
  (.node (.node (.node .nil 117 (()) .nil) 118 (()) .nil) 119 (()) (.node (.node .nil 120 (()) .nil) 121 (()) .nil)) 122 (()) (.node (.node (.node .nil 123 (()) .nil) 
  124 (()) .nil) 125 (()) (.node (.node .nil 126 (()) .nil) 127 (()) .nil))) 128 (()) (.node (.node (.node (.node .nil 129 (()) .nil) 130 (()) .nil) 131 (()) (.node 
  (.node .nil 132 (()) .nil) 133 (()) .nil)) 134 (()) (.node (.node (.node .nil 135 (()) .nil) 136 (()) .nil) 137 (()) (.node .nil 138 (()) .nil))))) 139 (()) (.node 
  (.node (.node (.node (.node (.node .nil 140 (()) .nil) 141 (()) .nil) 142 (()) (.node (.node .nil 143 (()) .nil) 144 (()) .nil)) 145 (()) (.node (.node (.node .nil 
  146 (()) .nil) 147 (()) .nil) 148 (()) (.node (.node .nil 149 (()) .nil) 150 (()) .nil))) 151 (()) (.node (.node (.node (.node .nil 152 (()) .nil) 153 (()) .nil) 
  154 (()) (.node (.node .nil 155 (()) .nil) 156 (()) .nil)) 157 (()) (.node (.node (.node .nil 158 (()) .nil) 159 (()) .nil) 160 (()) (.node .nil 161 (()) .nil)))) 
  162 (()) (.node (.node (.node (.node (.node .nil 163 (()) .nil) 164 (()) .nil) 165 (()) (.node (.node .nil 166 (()) .nil) 167 (()) .nil)) 168 (()) (.node (.node 
  (.node .nil 169 (()) .nil) 170 (()) .nil) 171 (()) (.node .nil 172 (()) .nil))) 173 (()) (.node (.node (.node (.node .nil 176 (()) .nil) 177 (()) .nil) 178 (()) 
  (.node (.node .nil 179 (()) .nil) 180 (()) .nil)) 181 (()) (.node (.node (.node .nil 182 (()) .nil) 183 (()) .nil) 184 (()) (.node .nil 185 (()) .nil))))))) 
noncomputable def jnB : Bt (Unit) := (.node (.node .nil 166 (()) .nil) 176 (()) .nil) 
noncomputable def ozB : Bt (Unit) := .nil 
noncomputable def bzB : Bt (Unit) := (.node (.node (.node (.node .nil 9 (()) .nil) 11 (()) (.node .nil 13 (()) .nil)) 17 (()) (.node (.node .nil 18 (()) .nil) 25 (()) (.node .nil 26 (()) .nil))) 28 
  (()) (.node (.node (.node .nil 29 (()) .nil) 30 (()) (.node .nil 31 (()) .nil)) 32 (()) (.node (.node .nil 33 (()) .nil) 37 (()) .nil))) 
noncomputable def nzB : Bt (Nat) := (.node .nil 140 (4) .nil) 
noncomputable def lvB : Bt (List Nat) := (.node (.node (.node (.node (.node (.node .nil 7 ([1, 3, 4, 5, 6, 96, 97, 98, 99, 100, 101, 102, 103, 104, 105, 106, 107, 108]) .nil) 9 ([1, 2, 3, 4]) (.node .nil 
  10 ([2, 3, 5, 54, 55, 56, 57, 58, 59, 60, 61, 62, 63, 64, 65]) .nil)) 17 ([2, 3, 17, 18, 19]) (.node (.node .nil 18 ([2, 3, 4, 5]) .nil) 21 ([1, 3, 11, 12, 13]) 
  .nil)) 22 ([3, 4, 5]) (.node (.node (.node .nil 23 ([1, 3, 23, 24, 25, 34, 35, 36, 39, 40, 41, 42, 51, 52, 53, 56, 57, 58, 61, 62, 63, 64]) .nil) 24 ([1, 3, 55, 
  56, 57, 58, 59, 60, 61, 62, 63, 64, 65, 66, 67, 68, 69, 70, 73, 74, 75, 76, 77, 78, 79, 82, 83, 84, 85, 86, 87, 88]) (.node .nil 26 ([4, 5, 6, 7, 8, 9]) .nil)) 29 
  ([4, 5, 6, 7, 8, 11, 125, 126, 127]) (.node (.node .nil 31 ([4, 5, 6, 7, 8, 58, 59, 60, 61, 62]) .nil) 32 ([2, 4, 7, 8, 34, 35, 36]) .nil))) 33 ([1, 4, 5, 6, 7, 
  8, 9, 55, 56, 57, 58, 59, 60, 61]) (.node (.node (.node (.node .nil 37 ([1, 2, 3, 4, 5, 30, 31, 32, 33, 34, 35, 67, 68]) .nil) 38 ([2, 3, 7, 8, 9]) (.node .nil 63 
  ([0, 1, 2, 7, 15, 16, 17, 40, 41, 42, 43, 44, 45, 46, 47, 48, 49, 50, 51, 52, 53, 70, 71, 72, 73, 74, 75, 76, 77, 78]) .nil)) 65 ([2, 3, 5, 6, 7, 14, 15, 16, 17, 
  18, 39, 40, 41, 42, 43, 44, 45, 46, 47, 48, 49, 50, 51, 52, 53, 54, 55, 56, 75, 76, 77, 78, 79, 80, 81, 82, 83, 84, 85]) (.node (.node .nil 67 ([1, 2, 5]) .nil) 
  77 ([2, 3, 5, 6]) .nil)) 85 ([1, 2, 30, 31, 32]) (.node (.node (.node .nil 88 ([0, 1, 5, 6]) .nil) 96 ([1, 5, 15, 16, 17]) .nil) 106 ([0, 5, 8, 9, 10]) (.node (.node 
  .nil 113 ([0, 1, 2, 6, 7, 8]) .nil) 115 ([0, 1, 2, 3, 4, 10, 11, 70, 73, 74, 84, 85, 86, 87, 88, 89, 90, 91, 92, 93, 94, 95, 96]) .nil)))) 118 ([0, 3, 7, 8]) (.node 
  (.node (.node (.node (.node .nil 120 ([0, 1, 7, 8]) .nil) 131 ([0, 1, 5, 6]) (.node .nil 133 ([0, 1, 5, 6, 7, 15, 16, 17, 18, 21, 41, 44, 45, 46, 47, 50, 51, 52, 
  53]) .nil)) 134 ([0, 1, 5]) (.node (.node .nil 135 ([0, 1, 2, 8, 9, 10, 35, 36, 37, 38, 41, 42, 43, 44, 45, 46, 47]) .nil) 136 ([0, 3, 9, 10, 11, 12, 13, 14]) .nil)) 
  140 ([0, 1, 5, 6]) (.node (.node (.node .nil 141 ([0, 1, 7, 8]) .nil) 144 ([0, 1, 2, 3, 8, 9, 22, 23, 24, 25, 26, 27, 28, 29, 30, 31, 32, 33]) .nil) 145 ([0, 1, 
  2, 3, 4, 10, 11, 13, 14, 15, 17, 18, 19, 20, 21, 22, 182, 183, 184, 196, 197, 198, 210, 211, 212]) (.node (.node .nil 146 ([0, 3, 8, 9, 10, 11, 12]) .nil) 147 ([0, 
  1, 8, 9, 10, 11]) .nil))) 149 ([0, 8, 9]) (.node (.node (.node (.node .nil 150 ([0, 1, 2, 3, 9, 10, 11, 12, 23, 24, 25, 26, 27, 28, 29, 30, 31, 32, 33, 34, 35]) 
  .nil) 151 ([0, 1, 4, 11, 12, 35, 36, 37, 38, 39, 40, 41, 42, 43, 44, 45, 46, 54, 55, 56, 57, 58, 59, 60, 61, 62, 63, 64]) (.node .nil 152 ([0, 1, 4, 12, 13, 36, 
  37, 38, 39, 40, 41, 42, 43, 44, 45, 46, 54, 55, 56, 57, 58, 59, 60, 61, 62, 63, 64, 65, 109, 110, 111, 112, 113, 114, 115, 116, 117, 118, 119, 127, 128, 129, 130, 
  131, 132, 133, 134, 135, 136, 137, 138]) .nil)) 156 ([1, 2, 4]) (.node (.node .nil 157 ([1, 2, 4, 6, 13, 14, 15, 46, 47, 48, 49, 50, 51]) .nil) 160 ([0, 3, 4, 5]) 
  .nil)) 166 ([1, 2, 6, 7, 8, 9, 10, 13, 14, 15, 89]) (.node (.node (.node .nil 168 ([0, 2, 4, 10, 11]) .nil) 169 ([0, 2, 3, 4, 10, 24, 25, 26, 27, 28, 29, 30, 31, 
  32, 33, 34, 35, 36, 37, 38, 39]) .nil) 176 ([1, 2, 6, 7, 10, 11, 12, 13, 14, 73, 74, 75, 76, 77, 78, 79, 84]) (.node (.node .nil 179 ([0, 1, 2, 3, 10]) .nil) 181 
  ([1, 3, 4]) .nil))))) 
noncomputable def bts : Bts := ⟨tyB, kdB, foB, elB, zeB, zsB, smlB, fun _ => none, keepB, dmB, mdB, fnsB, goB, jnB, ozB, bzB, nzB, lvB, ([(174, 0), (175, 1)] : List (Nat × Nat))⟩
theorem k_ty : tyB.mp (fun k _ => Ty Tryz.prog k) = tyB.mp fun _ v => some v := by kernel_rfl
theorem k_kd : kdB.mp (fun k v => kdOf Tryz.prog k v) = kdB.mp fun _ v => some v := by kernel_rfl
theorem k_fo : foB.mp (fun k _ => Fo Tryz.prog (k / 64) (k % 64)) = foB.mp fun _ v => some v := by kernel_rfl
theorem k_al : foB.mp (fun k _ => allTy Tryz.prog (k / 64)) = foB.mp fun _ _ => true := by kernel_rfl
theorem k_el : elB.mp (fun k _ => El Tryz.prog k) = elB.mp fun _ v => some v := by kernel_rfl
theorem k_ze : zeB.mp (fun k _ => Ze Tryz.prog k) = zeB.mp fun _ v => some v := by kernel_rfl
theorem k_zc : zeB.mp (fun _ v => v.all cOne) = zeB.mp fun _ _ => true := by kernel_rfl
theorem k_sml : smlB.mp (fun k _ => Nat.ble (Tryz.prog.bytesOf k) 256) = smlB.mp fun _ _ => true := by kernel_rfl
theorem k_fns : fnsB.mp (fun k _ => Tryz.prog.funcs[k]?) = fnsB.mp fun _ v => some v := by kernel_rfl
theorem k_gf : fnsB.mp (fun k _ => (goB.get k).isSome) = fnsB.mp fun _ _ => true := by kernel_rfl
theorem k_go : goB.mp (fun k _ => goesB Tryz.prog k) = goB.mp fun _ _ => true := by kernel_rfl
theorem k_mo : Tryz.prog.follows .mixedOrders = true := by kernel_rfl
theorem k_ex : ∀ p ∈ ([(174, 0), (175, 1)] : List (Nat × Nat)), ExtOK Tryz.prog p.1 p.2 := (ex_cons ⟨Tryz.f174, by kernel_rfl, by kernel_rfl, by kernel_rfl, by kernel_rfl, by kernel_rfl⟩ (ex_cons ⟨Tryz.f175, by kernel_rfl, by kernel_rfl, by kernel_rfl, by kernel_rfl, by kernel_rfl⟩ ex_nil))
theorem btsOK : BtsOK Tryz.prog bts := ⟨k_ty, k_kd, k_fo, k_al, k_el, k_ze, k_zc, k_sml, k_fns, k_gf, k_go, k_mo, k_ex⟩
theorem k_ok : fnsB.mp (fun f fn => match fn.body with | some c => okC fn.ntmps bts.tbl f c | none => true) = fnsB.mp fun _ _ => true := by kernel_rfl
noncomputable abbrev tb : Tbl := bts.tbl
end Su
