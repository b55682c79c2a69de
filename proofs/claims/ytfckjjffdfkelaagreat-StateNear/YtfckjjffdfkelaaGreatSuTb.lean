/-
  An evaluator of the program's functions over trees of values, proved sound. No condition.
-/
import Derived.Test.YtfckjjffdfkelaaGreatProg
import Derived.Test.YtfckjjffdfkelaaGreatSuSd
import Derived.KernelRfl
namespace Su
open Go Go.Proofs Fly
set_option maxRecDepth 100000
noncomputable def tyB : Bt (Bool × Nat) := (.node (.node (.node (.node (.node (.node (.node (.node (.node .nil 0 ((false, 1)) .nil) 1 ((false, 1)) .nil) 2 ((false, 1)) (.node .nil 3 ((false, 1)) .nil)) 4 
  ((false, 1)) (.node (.node .nil 5 ((false, 1)) .nil) 6 ((false, 1)) (.node .nil 7 ((true, 4)) .nil))) 8 ((true, 4)) (.node (.node (.node (.node .nil 9 ((false, 1)) 
  .nil) 10 ((false, 1)) .nil) 11 ((false, 1)) (.node .nil 12 ((false, 1)) .nil)) 13 ((true, 2)) (.node (.node .nil 14 ((true, 2)) .nil) 15 ((false, 1)) (.node .nil 
  16 ((false, 1)) .nil)))) 17 ((false, 1)) (.node (.node (.node (.node (.node .nil 18 ((true, 1)) .nil) 19 ((true, 1)) .nil) 20 ((false, 1)) (.node .nil 21 ((false, 
  1)) .nil)) 22 ((false, 1)) (.node (.node .nil 23 ((false, 1)) .nil) 24 ((false, 1)) (.node .nil 25 ((false, 1)) .nil))) 26 ((true, 7)) (.node (.node (.node (.node 
  .nil 27 ((true, 7)) .nil) 28 ((true, 3)) .nil) 29 ((true, 3)) (.node .nil 30 ((false, 1)) .nil)) 31 ((true, 5)) (.node (.node .nil 32 ((true, 5)) .nil) 33 ((false, 
  1)) (.node .nil 34 ((false, 1)) .nil))))) 35 ((false, 1)) (.node (.node (.node (.node (.node (.node .nil 36 ((false, 1)) .nil) 37 ((false, 1)) .nil) 38 ((false, 
  1)) (.node .nil 39 ((false, 1)) .nil)) 40 ((true, 3)) (.node (.node .nil 41 ((true, 3)) .nil) 42 ((false, 1)) (.node .nil 43 ((false, 1)) .nil))) 44 ((false, 1)) 
  (.node (.node (.node (.node .nil 45 ((false, 1)) .nil) 46 ((false, 1)) .nil) 47 ((true, 4)) (.node .nil 48 ((true, 4)) .nil)) 49 ((true, 8)) (.node (.node .nil 50 
  ((true, 8)) .nil) 51 ((true, 9)) (.node .nil 52 ((true, 9)) .nil)))) 53 ((false, 1)) (.node (.node (.node (.node (.node .nil 54 ((true, 2)) .nil) 55 ((true, 2)) 
  .nil) 56 ((true, 6)) (.node .nil 57 ((true, 6)) .nil)) 58 ((true, 3)) (.node (.node .nil 59 ((true, 3)) .nil) 60 ((false, 1)) (.node .nil 61 ((true, 4)) .nil))) 
  62 ((true, 4)) (.node (.node (.node (.node .nil 63 ((true, 19)) .nil) 64 ((true, 19)) .nil) 65 ((false, 1)) (.node .nil 66 ((false, 1)) .nil)) 67 ((false, 1)) (.node 
  (.node .nil 68 ((false, 1)) .nil) 69 ((false, 1)) (.node .nil 70 ((false, 1)) .nil)))))) 71 ((false, 1)) (.node (.node (.node (.node (.node (.node (.node .nil 72 
  ((false, 1)) .nil) 73 ((false, 1)) .nil) 74 ((false, 1)) (.node .nil 75 ((false, 1)) .nil)) 76 ((false, 1)) (.node (.node .nil 77 ((false, 1)) .nil) 78 ((false, 
  1)) (.node .nil 79 ((false, 1)) .nil))) 80 ((false, 1)) (.node (.node (.node (.node .nil 81 ((false, 1)) .nil) 82 ((false, 1)) .nil) 83 ((false, 1)) (.node .nil 
  84 ((false, 1)) .nil)) 85 ((false, 1)) (.node (.node .nil 86 ((false, 1)) .nil) 87 ((false, 1)) (.node .nil 88 ((false, 1)) .nil)))) 89 ((false, 1)) (.node (.node 
  (.node (.node (.node .nil 90 ((false, 1)) .nil) 91 ((false, 1)) .nil) 92 ((false, 1)) (.node .nil 93 ((false, 1)) .nil)) 94 ((false, 1)) (.node (.node .nil 95 ((false, 
  1)) .nil) 96 ((false, 1)) (.node .nil 97 ((false, 1)) .nil))) 98 ((false, 1)) (.node (.node (.node (.node .nil 99 ((false, 1)) .nil) 100 ((false, 1)) .nil) 101 ((false, 
  1)) (.node .nil 102 ((true, 2)) .nil)) 103 ((true, 2)) (.node (.node .nil 104 ((false, 1)) .nil) 105 ((false, 1)) (.node .nil 106 ((false, 1)) .nil))))) 107 ((false, 
  1)) (.node (.node (.node (.node (.node (.node .nil 108 ((false, 1)) .nil) 109 ((false, 1)) .nil) 110 ((false, 1)) (.node .nil 111 ((false, 1)) .nil)) 112 ((false, 
  1)) (.node (.node .nil 113 ((false, 1)) .nil) 114 ((false, 1)) (.node .nil 115 ((false, 1)) .nil))) 116 ((false, 1)) (.node (.node (.node (.node .nil 117 ((false, 
  1)) .nil) 118 ((false, 1)) .nil) 119 ((false, 1)) (.node .nil 120 ((false, 1)) .nil)) 121 ((false, 1)) (.node (.node .nil 122 ((false, 1)) .nil) 123 ((false, 1)) 
  (.node .nil 124 ((false, 1)) .nil)))) 125 ((false, 1)) (.node (.node (.node (.node (.node .nil 126 ((false, 1)) .nil) 127 ((false, 1)) .nil) 128 ((false, 1)) (.node 
  .nil 129 ((false, 1)) .nil)) 130 ((false, 1)) (.node (.node .nil 131 ((false, 1)) .nil) 132 ((false, 1)) (.node .nil 133 ((false, 1)) .nil))) 134 ((false, 1)) (.node 
  (.node (.node .nil 135 ((false, 1)) .nil) 136 ((false, 1)) (.node .nil 137 ((false, 1)) .nil)) 138 ((false, 1)) (.node (.node .nil 139 ((false, 1)) .nil) 140 ((false, 
  1)) (.node .nil 141 ((false, 1)) .nil))))))) 142 ((false, 1)) (.node (.node (.node (.node (.node (.node (.node (.node .nil 143 ((false, 1)) .nil) 144 ((false, 1)) 
  .nil) 145 ((false, 1)) (.node .nil 146 ((false, 1)) .nil)) 147 ((false, 1)) (.node (.node .nil 148 ((false, 1)) .nil) 149 ((false, 1)) (.node .nil 150 ((false, 1)) 
  .nil))) 151 ((false, 1)) (.node (.node (.node (.node .nil 152 ((false, 1)) .nil) 153 ((false, 1)) .nil) 154 ((false, 1)) (.node .nil 155 ((false, 1)) .nil)) 156 
  ((false, 1)) (.node (.node .nil 157 ((false, 1)) .nil) 158 ((false, 1)) (.node .nil 159 ((false, 1)) .nil)))) 160 ((false, 1)) (.node (.node (.node (.node (.node 
  .nil 161 ((false, 1)) .nil) 162 ((false, 1)) .nil) 163 ((false, 1)) (.node .nil 164 ((false, 1)) .nil)) 165 ((false, 1)) (.node (.node .nil 166 ((false, 1)) .nil) 
  167 ((false, 1)) (.node .nil 168 ((false, 1)) .nil))) 169 ((false, 1)) (.node (.node (.node (.node .nil 170 ((false, 1)) .nil) 171 ((false, 1)) .nil) 172 ((false, 
  1)) (.node .nil 173 ((false, 1)) .nil)) 174 ((false, 1)) (.node (.node .nil 175 ((false, 1)) .nil) 176 ((false, 1)) (.node .nil 177 ((false, 1)) .nil))))) 178 ((false, 
  1)) (.node (.node (.node (.node (.node (.node .nil 179 ((false, 1)) .nil) 180 ((false, 1)) .nil) 181 ((false, 1)) (.node .nil 182 ((false, 1)) .nil)) 183 ((false, 
  1)) (.node (.node .nil 184 ((false, 1)) .nil) 185 ((false, 1)) (.node .nil 186 ((false, 1)) .nil))) 187 ((false, 1)) (.node (.node (.node (.node .nil 188 ((false, 
  1)) .nil) 189 ((false, 1)) .nil) 190 ((false, 1)) (.node .nil 191 ((false, 1)) .nil)) 192 ((false, 1)) (.node (.node .nil 193 ((false, 1)) .nil) 194 ((false, 1)) 
  (.node .nil 195 ((false, 1)) .nil)))) 196 ((false, 1)) (.node (.node (.node (.node (.node .nil 197 ((false, 1)) .nil) 198 ((false, 1)) .nil) 199 ((false, 1)) (.node 
  .nil 200 ((false, 1)) .nil)) 201 ((false, 1)) (.node (.node .nil 202 ((false, 1)) .nil) 203 ((false, 1)) (.node .nil 204 ((false, 1)) .nil))) 205 ((false, 1)) (.node 
  (.node (.node .nil 206 ((false, 1)) .nil) 207 ((false, 1)) (.node .nil 208 ((false, 1)) .nil)) 209 ((false, 1)) (.node (.node .nil 210 ((false, 1)) .nil) 211 ((false, 
  1)) (.node .nil 212 ((false, 1)) .nil)))))) 213 ((false, 1)) (.node (.node (.node (.node (.node (.node (.node .nil 214 ((false, 1)) .nil) 215 ((false, 1)) .nil) 
  216 ((false, 1)) (.node .nil 217 ((false, 1)) .nil)) 218 ((true, 5)) (.node (.node .nil 219 ((true, 5)) .nil) 220 ((false, 1)) (.node .nil 221 ((false, 1)) .nil))) 
  222 ((false, 1)) (.node (.node (.node (.node .nil 223 ((false, 1)) .nil) 224 ((false, 1)) .nil) 225 ((false, 1)) (.node .nil 226 ((true, 2)) .nil)) 227 ((true, 2)) 
  (.node (.node .nil 228 ((false, 1)) .nil) 229 ((false, 1)) (.node .nil 230 ((false, 1)) .nil)))) 231 ((false, 1)) (.node (.node (.node (.node (.node .nil 232 ((false, 
  1)) .nil) 233 ((false, 1)) .nil) 234 ((false, 1)) (.node .nil 235 ((false, 1)) .nil)) 236 ((false, 1)) (.node (.node .nil 237 ((false, 1)) .nil) 238 ((false, 1)) 
  (.node .nil 239 ((false, 1)) .nil))) 240 ((false, 1)) (.node (.node (.node (.node .nil 241 ((false, 1)) .nil) 242 ((false, 1)) .nil) 243 ((false, 1)) (.node .nil 
  244 ((false, 1)) .nil)) 245 ((true, 5)) (.node (.node .nil 246 ((true, 5)) .nil) 247 ((false, 1)) (.node .nil 248 ((false, 1)) .nil))))) 249 ((false, 1)) (.node 
  (.node (.node (.node (.node (.node .nil 250 ((false, 1)) .nil) 251 ((false, 1)) .nil) 252 ((false, 1)) (.node .nil 253 ((false, 1)) .nil)) 254 ((false, 1)) (.node 
  (.node .nil 255 ((false, 1)) .nil) 256 ((false, 1)) (.node .nil 257 ((false, 1)) .nil))) 258 ((false, 1)) (.node (.node (.node (.node .nil 259 ((false, 1)) .nil) 
  260 ((false, 1)) .nil) 261 ((false, 1)) (.node .nil 262 ((false, 1)) .nil)) 263 ((false, 1)) (.node (.node .nil 264 ((true, 4)) .nil) 265 ((true, 4)) (.node .nil 
  266 ((true, 0)) .nil)))) 267 ((true, 0)) (.node (.node (.node (.node (.node .nil 268 ((true, 0)) .nil) 269 ((false, 1)) .nil) 270 ((false, 1)) (.node .nil 271 ((false, 
  1)) .nil)) 272 ((false, 1)) (.node (.node .nil 273 ((false, 1)) .nil) 274 ((false, 1)) (.node .nil 275 ((true, 11)) .nil))) 276 ((true, 11)) (.node (.node (.node 
  .nil 277 ((false, 1)) .nil) 278 ((true, 10)) (.node .nil 279 ((true, 10)) .nil)) 280 ((false, 1)) (.node (.node .nil 281 ((true, 11)) .nil) 282 ((true, 11)) (.node 
  .nil 283 ((false, 1)) .nil)))))))) 
noncomputable def kdB : Bt (Kd) := (.node (.node (.node (.node (.node (.node .nil 2 (.int .i64) .nil) 3 (.int .i64) .nil) 4 (.bool) (.node (.node .nil 5 (.int .u8) .nil) 6 (.int .u8) .nil)) 7 (.flat 
  [.int .i64, .int .i64, .bool, .int .u8]) (.node (.node (.node .nil 8 (.flat [.int .i64, .int .i64, .bool, .int .u8]) .nil) 9 (.str) .nil) 10 (.str) (.node (.node 
  .nil 11 (.str) .nil) 12 (.int .u64) .nil))) 21 (.int .i32) (.node (.node (.node (.node .nil 28 (.flat [.bool, .int .i64, .int .i64]) .nil) 29 (.flat [.bool, .int 
  .i64, .int .i64]) .nil) 44 (.int .u64) (.node (.node .nil 45 (.int .u64) .nil) 46 (.int .u8) .nil)) 47 (.flat [.int .u8, .bool, .int .i32, .int .u64]) (.node (.node 
  (.node .nil 48 (.flat [.int .u8, .bool, .int .i32, .int .u64]) .nil) 51 (.flat [.string, .int .i64, .int .i64, .int .u8, .bool, .int .u64, .int .u64, .int .i32, 
  .int .i32]) .nil) 52 (.flat [.string, .int .i64, .int .i64, .int .u8, .bool, .int .u64, .int .u64, .int .i32, .int .i32]) (.node (.node .nil 54 (.flat [.bool, .bool]) 
  .nil) 55 (.flat [.bool, .bool]) .nil)))) 58 (.flat [.bool, .int .u64, .int .u64]) (.node (.node (.node (.node (.node .nil 59 (.flat [.bool, .int .u64, .int .u64]) 
  .nil) 102 (.flat [.int .i64, .int .u64]) .nil) 103 (.flat [.int .i64, .int .u64]) (.node (.node .nil 110 (.int .u8) .nil) 114 (.int .i64) .nil)) 117 (.int .u64) 
  (.node (.node (.node .nil 154 (.int .u8) .nil) 175 (.int .u32) .nil) 193 (.int .u8) (.node (.node .nil 218 (.flat [.int .u64, .int .u8, .bool, .int .u64, .int .i64]) 
  .nil) 219 (.flat [.int .u64, .int .u8, .bool, .int .u64, .int .i64]) .nil))) 226 (.flat [.int .u64, .int .u64]) (.node (.node (.node (.node .nil 227 (.flat [.int 
  .u64, .int .u64]) .nil) 230 (.int .i64) .nil) 250 (.int .u64) (.node (.node .nil 269 (.int .u8) .nil) 270 (.int .u8) .nil)) 273 (.int .i32) (.node (.node (.node 
  .nil 274 (.int .i32) .nil) 277 (.int .u8) .nil) 278 (.flat [.int .u8, .int .u8, .int .i64, .int .i64, .int .i64, .int .i64, .int .i64, .bool, .int .i32, .int .u64]) 
  (.node (.node .nil 279 (.flat [.int .u8, .int .u8, .int .i64, .int .i64, .int .i64, .int .i64, .int .i64, .bool, .int .i32, .int .u64]) .nil) 280 (.int .u8) .nil))))) 
noncomputable def foB : Bt (Nat × Bool × Nat) := (.node (.node (.node (.node (.node (.node (.node (.node .nil 448 ((0, false, 1)) .nil) 449 ((1, false, 1)) (.node .nil 450 ((2, false, 1)) .nil)) 451 ((3, false, 
  1)) (.node (.node .nil 512 ((0, false, 1)) .nil) 513 ((1, false, 1)) .nil)) 514 ((2, false, 1)) (.node (.node (.node .nil 515 ((3, false, 1)) .nil) 832 ((0, false, 
  1)) (.node .nil 833 ((1, false, 1)) .nil)) 896 ((0, false, 1)) (.node (.node .nil 897 ((1, false, 1)) .nil) 1152 ((0, false, 1)) .nil))) 1216 ((0, false, 1)) (.node 
  (.node (.node (.node .nil 1664 ((0, false, 1)) .nil) 1665 ((1, false, 1)) (.node .nil 1666 ((2, false, 1)) .nil)) 1667 ((3, false, 1)) (.node (.node .nil 1668 ((4, 
  false, 1)) .nil) 1669 ((5, false, 1)) .nil)) 1670 ((6, false, 1)) (.node (.node (.node .nil 1728 ((0, false, 1)) .nil) 1729 ((1, false, 1)) .nil) 1730 ((2, false, 
  1)) (.node (.node .nil 1731 ((3, false, 1)) .nil) 1732 ((4, false, 1)) .nil)))) 1733 ((5, false, 1)) (.node (.node (.node (.node (.node .nil 1734 ((6, false, 1)) 
  .nil) 1792 ((0, false, 1)) (.node .nil 1793 ((1, false, 1)) .nil)) 1794 ((2, false, 1)) (.node (.node .nil 1856 ((0, false, 1)) .nil) 1857 ((1, false, 1)) .nil)) 
  1858 ((2, false, 1)) (.node (.node (.node .nil 1984 ((0, false, 1)) .nil) 1985 ((1, true, 3)) .nil) 1986 ((4, false, 1)) (.node (.node .nil 2048 ((0, false, 1)) 
  .nil) 2049 ((1, true, 3)) .nil))) 2050 ((4, false, 1)) (.node (.node (.node (.node .nil 2560 ((0, false, 1)) .nil) 2561 ((1, false, 1)) (.node .nil 2562 ((2, false, 
  1)) .nil)) 2624 ((0, false, 1)) (.node (.node .nil 2625 ((1, false, 1)) .nil) 2626 ((2, false, 1)) .nil)) 3008 ((0, false, 1)) (.node (.node (.node .nil 3009 ((1, 
  false, 1)) .nil) 3010 ((2, false, 1)) .nil) 3011 ((3, false, 1)) (.node (.node .nil 3072 ((0, false, 1)) .nil) 3073 ((1, false, 1)) .nil))))) 3074 ((2, false, 1)) 
  (.node (.node (.node (.node (.node (.node .nil 3075 ((3, false, 1)) .nil) 3136 ((0, true, 4)) (.node .nil 3137 ((4, true, 3)) .nil)) 3138 ((7, false, 1)) (.node 
  (.node .nil 3200 ((0, true, 4)) .nil) 3201 ((4, true, 3)) .nil)) 3202 ((7, false, 1)) (.node (.node (.node .nil 3264 ((0, false, 1)) .nil) 3265 ((1, false, 1)) (.node 
  .nil 3266 ((2, false, 1)) .nil)) 3267 ((3, false, 1)) (.node (.node .nil 3268 ((4, false, 1)) .nil) 3269 ((5, false, 1)) .nil))) 3270 ((6, false, 1)) (.node (.node 
  (.node (.node .nil 3271 ((7, false, 1)) .nil) 3272 ((8, false, 1)) (.node .nil 3328 ((0, false, 1)) .nil)) 3329 ((1, false, 1)) (.node (.node .nil 3330 ((2, false, 
  1)) .nil) 3331 ((3, false, 1)) .nil)) 3332 ((4, false, 1)) (.node (.node (.node .nil 3333 ((5, false, 1)) .nil) 3334 ((6, false, 1)) .nil) 3335 ((7, false, 1)) (.node 
  (.node .nil 3336 ((8, false, 1)) .nil) 3456 ((0, false, 1)) .nil)))) 3457 ((1, false, 1)) (.node (.node (.node (.node (.node .nil 3520 ((0, false, 1)) .nil) 3521 
  ((1, false, 1)) (.node .nil 3584 ((0, true, 3)) .nil)) 3585 ((3, true, 3)) (.node (.node .nil 3648 ((0, true, 3)) .nil) 3649 ((3, true, 3)) .nil)) 3712 ((0, false, 
  1)) (.node (.node (.node .nil 3713 ((1, false, 1)) .nil) 3714 ((2, false, 1)) .nil) 3776 ((0, false, 1)) (.node (.node .nil 3777 ((1, false, 1)) .nil) 3778 ((2, 
  false, 1)) .nil))) 3904 ((0, false, 1)) (.node (.node (.node (.node .nil 3905 ((1, false, 1)) .nil) 3906 ((2, false, 1)) (.node .nil 3907 ((3, false, 1)) .nil)) 
  3968 ((0, false, 1)) (.node (.node .nil 3969 ((1, false, 1)) .nil) 3970 ((2, false, 1)) .nil)) 3971 ((3, false, 1)) (.node (.node (.node .nil 4032 ((0, true, 2)) 
  .nil) 4033 ((2, true, 3)) .nil) 4034 ((5, true, 6)) (.node (.node .nil 4035 ((11, true, 3)) .nil) 4036 ((14, false, 1)) .nil)))))) 4037 ((15, true, 4)) (.node (.node 
  (.node (.node (.node (.node (.node .nil 4096 ((0, true, 2)) .nil) 4097 ((2, true, 3)) (.node .nil 4098 ((5, true, 6)) .nil)) 4099 ((11, true, 3)) (.node (.node .nil 
  4100 ((14, false, 1)) .nil) 4101 ((15, true, 4)) .nil)) 6528 ((0, false, 1)) (.node (.node (.node .nil 6529 ((1, false, 1)) .nil) 6592 ((0, false, 1)) (.node .nil 
  6593 ((1, false, 1)) .nil)) 13952 ((0, false, 1)) (.node (.node .nil 13953 ((1, false, 1)) .nil) 13954 ((2, false, 1)) .nil))) 13955 ((3, false, 1)) (.node (.node 
  (.node (.node .nil 13956 ((4, false, 1)) .nil) 14016 ((0, false, 1)) (.node .nil 14017 ((1, false, 1)) .nil)) 14018 ((2, false, 1)) (.node (.node .nil 14019 ((3, 
  false, 1)) .nil) 14020 ((4, false, 1)) .nil)) 14464 ((0, false, 1)) (.node (.node (.node .nil 14465 ((1, false, 1)) .nil) 14528 ((0, false, 1)) .nil) 14529 ((1, 
  false, 1)) (.node (.node .nil 15680 ((0, false, 1)) .nil) 15681 ((1, true, 2)) .nil)))) 15682 ((3, false, 1)) (.node (.node (.node (.node (.node .nil 15683 ((4, 
  false, 1)) .nil) 15744 ((0, false, 1)) (.node .nil 15745 ((1, true, 2)) .nil)) 15746 ((3, false, 1)) (.node (.node .nil 15747 ((4, false, 1)) .nil) 16896 ((0, false, 
  1)) .nil)) 16897 ((1, false, 1)) (.node (.node (.node .nil 16898 ((2, false, 1)) .nil) 16899 ((3, false, 1)) .nil) 16960 ((0, false, 1)) (.node (.node .nil 16961 
  ((1, false, 1)) .nil) 16962 ((2, false, 1)) .nil))) 16963 ((3, false, 1)) (.node (.node (.node (.node .nil 17600 ((0, false, 1)) .nil) 17601 ((1, false, 1)) (.node 
  .nil 17602 ((2, false, 1)) .nil)) 17603 ((3, false, 1)) (.node (.node .nil 17604 ((4, false, 1)) .nil) 17605 ((5, false, 1)) .nil)) 17606 ((6, false, 1)) (.node 
  (.node (.node .nil 17607 ((7, false, 1)) .nil) 17608 ((8, false, 1)) .nil) 17609 ((9, false, 1)) (.node (.node .nil 17610 ((10, false, 1)) .nil) 17664 ((0, false, 
  1)) .nil))))) 17665 ((1, false, 1)) (.node (.node (.node (.node (.node (.node .nil 17666 ((2, false, 1)) .nil) 17667 ((3, false, 1)) (.node .nil 17668 ((4, false, 
  1)) .nil)) 17669 ((5, false, 1)) (.node (.node .nil 17670 ((6, false, 1)) .nil) 17671 ((7, false, 1)) .nil)) 17672 ((8, false, 1)) (.node (.node (.node .nil 17673 
  ((9, false, 1)) .nil) 17674 ((10, false, 1)) .nil) 17792 ((0, false, 1)) (.node (.node .nil 17793 ((1, false, 1)) .nil) 17794 ((2, false, 1)) .nil))) 17795 ((3, 
  false, 1)) (.node (.node (.node (.node .nil 17796 ((4, false, 1)) .nil) 17797 ((5, false, 1)) (.node .nil 17798 ((6, false, 1)) .nil)) 17799 ((7, false, 1)) (.node 
  (.node .nil 17800 ((8, false, 1)) .nil) 17801 ((9, false, 1)) .nil)) 17856 ((0, false, 1)) (.node (.node (.node .nil 17857 ((1, false, 1)) .nil) 17858 ((2, false, 
  1)) .nil) 17859 ((3, false, 1)) (.node (.node .nil 17860 ((4, false, 1)) .nil) 17861 ((5, false, 1)) .nil)))) 17862 ((6, false, 1)) (.node (.node (.node (.node (.node 
  .nil 17863 ((7, false, 1)) .nil) 17864 ((8, false, 1)) (.node .nil 17865 ((9, false, 1)) .nil)) 17984 ((0, false, 1)) (.node (.node .nil 17985 ((1, false, 1)) .nil) 
  17986 ((2, false, 1)) .nil)) 17987 ((3, false, 1)) (.node (.node (.node .nil 17988 ((4, false, 1)) .nil) 17989 ((5, false, 1)) .nil) 17990 ((6, false, 1)) (.node 
  (.node .nil 17991 ((7, false, 1)) .nil) 17992 ((8, false, 1)) .nil))) 17993 ((9, false, 1)) (.node (.node (.node (.node .nil 17994 ((10, false, 1)) .nil) 18048 ((0, 
  false, 1)) (.node .nil 18049 ((1, false, 1)) .nil)) 18050 ((2, false, 1)) (.node (.node .nil 18051 ((3, false, 1)) .nil) 18052 ((4, false, 1)) .nil)) 18053 ((5, 
  false, 1)) (.node (.node (.node .nil 18054 ((6, false, 1)) .nil) 18055 ((7, false, 1)) .nil) 18056 ((8, false, 1)) (.node (.node .nil 18057 ((9, false, 1)) .nil) 
  18058 ((10, false, 1)) .nil))))))) 
noncomputable def elB : Bt (Nat × Nat) := (.node (.node (.node (.node (.node .nil 22 ((52, 9)) .nil) 23 ((279, 10)) .nil) 24 ((282, 11)) (.node .nil 25 ((3, 1)) .nil)) 30 ((64, 19)) (.node (.node .nil 33 
  ((45, 1)) .nil) 34 ((4, 1)) (.node .nil 37 ((50, 8)) .nil))) 38 ((175, 1)) (.node (.node (.node (.node .nil 39 ((175, 1)) .nil) 60 ((103, 2)) .nil) 70 ((48, 4)) 
  (.node .nil 109 ((32, 5)) .nil)) 184 ((29, 3)) (.node (.node .nil 187 ((59, 3)) .nil) 190 ((62, 4)) (.node .nil 201 ((200, 1)) .nil)))) 
noncomputable def zeB : Bt (List Value) := (.node (.node (.node (.node (.node (.node (.node (.node (.node .nil 1 ([.nilFunc]) .nil) 2 ([.int .i64 0]) .nil) 3 ([.int .i64 0]) (.node .nil 4 ([.bool false]) 
  .nil)) 5 ([.int .u8 0]) (.node (.node .nil 6 ([.int .u8 0]) .nil) 7 ([.int .i64 0, .int .i64 0, .bool false, .int .u8 0]) (.node .nil 8 ([.int .i64 0, .int .i64 
  0, .bool false, .int .u8 0]) .nil))) 9 ([.string ByteArray.empty]) (.node (.node (.node .nil 10 ([.string ByteArray.empty]) .nil) 11 ([.string ByteArray.empty]) 
  (.node .nil 12 ([.int .u64 0]) .nil)) 13 ([.string ByteArray.empty, .int .u64 0]) (.node (.node .nil 14 ([.string ByteArray.empty, .int .u64 0]) .nil) 15 ([.pointer 
  none]) (.node .nil 16 ([.pointer none]) .nil)))) 17 ([.pointer none]) (.node (.node (.node (.node (.node .nil 18 ([.pointer none]) .nil) 19 ([.pointer none]) .nil) 
  20 ([.nilIface]) (.node .nil 21 ([.int .i32 0]) .nil)) 22 ([.slice none 0 0]) (.node (.node .nil 23 ([.slice none 0 0]) .nil) 24 ([.slice none 0 0]) (.node .nil 
  25 ([.slice none 0 0]) .nil))) 26 ([.int .i64 0, .slice none 0 0, .slice none 0 0, .slice none 0 0, .slice none 0 0, .slice none 0 0, .int .i64 0]) (.node (.node 
  (.node .nil 27 ([.int .i64 0, .slice none 0 0, .slice none 0 0, .slice none 0 0, .slice none 0 0, .slice none 0 0, .int .i64 0]) .nil) 28 ([.bool false, .int .i64 
  0, .int .i64 0]) (.node .nil 29 ([.bool false, .int .i64 0, .int .i64 0]) .nil)) 30 ([.slice none 0 0]) (.node (.node .nil 31 ([.bool false, .bool false, .int .i64 
  0, .int .i64 0, .slice none 0 0]) .nil) 32 ([.bool false, .bool false, .int .i64 0, .int .i64 0, .slice none 0 0]) (.node .nil 33 ([.slice none 0 0]) .nil))))) 34 
  ([.slice none 0 0]) (.node (.node (.node (.node (.node (.node .nil 35 ([.nilFunc]) .nil) 36 ([.nilFunc]) .nil) 37 ([.slice none 0 0]) (.node .nil 38 ([.slice none 
  0 0]) .nil)) 39 ([.slice none 0 0]) (.node (.node .nil 40 ([.bool false, .slice none 0 0, .slice none 0 0]) .nil) 41 ([.bool false, .slice none 0 0, .slice none 
  0 0]) (.node .nil 43 ([.nilFunc]) .nil))) 44 ([.int .u64 0]) (.node (.node (.node .nil 45 ([.int .u64 0]) .nil) 46 ([.int .u8 0]) (.node .nil 47 ([.int .u8 0, .bool 
  false, .int .i32 0, .int .u64 0]) .nil)) 48 ([.int .u8 0, .bool false, .int .i32 0, .int .u64 0]) (.node (.node .nil 49 ([.int .u8 0, .bool false, .int .i32 0, .int 
  .u64 0, .bool false, .slice none 0 0, .slice none 0 0, .bool false]) .nil) 50 ([.int .u8 0, .bool false, .int .i32 0, .int .u64 0, .bool false, .slice none 0 0, 
  .slice none 0 0, .bool false]) (.node .nil 51 ([.string ByteArray.empty, .int .i64 0, .int .i64 0, .int .u8 0, .bool false, .int .u64 0, .int .u64 0, .int .i32 0, 
  .int .i32 0]) .nil)))) 52 ([.string ByteArray.empty, .int .i64 0, .int .i64 0, .int .u8 0, .bool false, .int .u64 0, .int .u64 0, .int .i32 0, .int .i32 0]) (.node 
  (.node (.node (.node .nil 53 ([.nilFunc]) .nil) 54 ([.bool false, .bool false]) (.node .nil 55 ([.bool false, .bool false]) .nil)) 56 ([.bool false, .int .i64 0, 
  .int .i64 0, .bool false, .int .i64 0, .int .i64 0]) (.node (.node .nil 57 ([.bool false, .int .i64 0, .int .i64 0, .bool false, .int .i64 0, .int .i64 0]) .nil) 
  58 ([.bool false, .int .u64 0, .int .u64 0]) (.node .nil 59 ([.bool false, .int .u64 0, .int .u64 0]) .nil))) 60 ([.slice none 0 0]) (.node (.node (.node .nil 61 
  ([.bool false, .int .u64 0, .slice none 0 0, .int .u64 0]) .nil) 62 ([.bool false, .int .u64 0, .slice none 0 0, .int .u64 0]) (.node .nil 63 ([.bool false, .bool 
  false, .bool false, .int .i64 0, .int .i64 0, .bool false, .int .i64 0, .int .i64 0, .bool false, .int .i64 0, .int .i64 0, .bool false, .int .u64 0, .int .u64 0, 
  .int .u64 0, .bool false, .int .u64 0, .slice none 0 0, .int .u64 0]) .nil)) 64 ([.bool false, .bool false, .bool false, .int .i64 0, .int .i64 0, .bool false, .int 
  .i64 0, .int .i64 0, .bool false, .int .i64 0, .int .i64 0, .bool false, .int .u64 0, .int .u64 0, .int .u64 0, .bool false, .int .u64 0, .slice none 0 0, .int .u64 
  0]) (.node (.node .nil 65 ([.nilFunc]) .nil) 66 ([.nilFunc]) (.node .nil 67 ([.nilFunc]) .nil)))))) 68 ([.nilFunc]) (.node (.node (.node (.node (.node (.node (.node 
  .nil 69 ([.nilFunc]) .nil) 70 ([.slice none 0 0]) .nil) 71 ([.nilFunc]) (.node .nil 72 ([.nilFunc]) .nil)) 73 ([.nilFunc]) (.node (.node .nil 74 ([.nilFunc]) .nil) 
  75 ([.nilFunc]) (.node .nil 76 ([.nilFunc]) .nil))) 77 ([.nilFunc]) (.node (.node (.node .nil 78 ([.nilFunc]) .nil) 79 ([.nilFunc]) (.node .nil 80 ([.nilFunc]) .nil)) 
  81 ([.nilFunc]) (.node (.node .nil 83 ([.nilFunc]) .nil) 84 ([.nilFunc]) (.node .nil 85 ([.nilFunc]) .nil)))) 86 ([.nilFunc]) (.node (.node (.node (.node (.node 
  .nil 87 ([.nilFunc]) .nil) 88 ([.nilFunc]) .nil) 89 ([.nilFunc]) (.node .nil 90 ([.nilFunc]) .nil)) 91 ([.nilFunc]) (.node (.node .nil 92 ([.nilFunc]) .nil) 93 ([.nilFunc]) 
  (.node .nil 94 ([.nilFunc]) .nil))) 95 ([.nilFunc]) (.node (.node (.node .nil 96 ([.nilFunc]) .nil) 97 ([.nilFunc]) (.node .nil 98 ([.nilFunc]) .nil)) 99 ([.nilFunc]) 
  (.node (.node .nil 100 ([.nilFunc]) .nil) 101 ([.nilFunc]) (.node .nil 102 ([.int .i64 0, .int .u64 0]) .nil))))) 103 ([.int .i64 0, .int .u64 0]) (.node (.node 
  (.node (.node (.node (.node .nil 104 ([.nilFunc]) .nil) 105 ([.nilFunc]) .nil) 106 ([.nilFunc]) (.node .nil 107 ([.nilFunc]) .nil)) 108 ([.nilFunc]) (.node (.node 
  .nil 109 ([.slice none 0 0]) .nil) 110 ([.int .u8 0]) (.node .nil 111 ([.nilFunc]) .nil))) 113 ([.nilFunc]) (.node (.node (.node .nil 114 ([.int .i64 0]) .nil) 116 
  ([.nilFunc]) (.node .nil 117 ([.int .u64 0]) .nil)) 118 ([.nilFunc]) (.node (.node .nil 119 ([.nilFunc]) .nil) 120 ([.nilFunc]) (.node .nil 121 ([.nilFunc]) .nil)))) 
  122 ([.nilFunc]) (.node (.node (.node (.node .nil 123 ([.nilFunc]) .nil) 124 ([.nilFunc]) (.node .nil 125 ([.nilFunc]) .nil)) 126 ([.nilFunc]) (.node (.node .nil 
  127 ([.nilFunc]) .nil) 128 ([.nilFunc]) (.node .nil 129 ([.nilFunc]) .nil))) 130 ([.nilFunc]) (.node (.node (.node .nil 131 ([.nilFunc]) .nil) 132 ([.nilFunc]) (.node 
  .nil 133 ([.nilFunc]) .nil)) 134 ([.nilFunc]) (.node (.node .nil 135 ([.nilFunc]) .nil) 136 ([.nilFunc]) (.node .nil 137 ([.nilFunc]) .nil))))))) 138 ([.nilFunc]) 
  (.node (.node (.node (.node (.node (.node (.node (.node .nil 139 ([.nilFunc]) .nil) 140 ([.nilFunc]) .nil) 141 ([.nilFunc]) (.node .nil 142 ([.nilFunc]) .nil)) 143 
  ([.nilFunc]) (.node (.node .nil 144 ([.nilFunc]) .nil) 145 ([.nilFunc]) (.node .nil 146 ([.nilFunc]) .nil))) 147 ([.nilFunc]) (.node (.node (.node .nil 148 ([.nilFunc]) 
  .nil) 149 ([.nilFunc]) (.node .nil 150 ([.nilFunc]) .nil)) 151 ([.nilFunc]) (.node (.node .nil 152 ([.nilFunc]) .nil) 153 ([.nilFunc]) (.node .nil 154 ([.int .u8 
  0]) .nil)))) 155 ([.nilFunc]) (.node (.node (.node (.node (.node .nil 157 ([.nilFunc]) .nil) 158 ([.nilFunc]) .nil) 159 ([.nilFunc]) (.node .nil 160 ([.nilFunc]) 
  .nil)) 161 ([.nilFunc]) (.node (.node .nil 162 ([.nilFunc]) .nil) 163 ([.nilFunc]) (.node .nil 164 ([.nilFunc]) .nil))) 165 ([.nilFunc]) (.node (.node (.node .nil 
  166 ([.nilFunc]) .nil) 167 ([.nilFunc]) (.node .nil 169 ([.nilFunc]) .nil)) 171 ([.nilFunc]) (.node (.node .nil 172 ([.nilFunc]) .nil) 174 ([.nilFunc]) (.node .nil 
  175 ([.int .u32 0]) .nil))))) 176 ([.nilFunc]) (.node (.node (.node (.node (.node (.node .nil 177 ([.nilFunc]) .nil) 178 ([.nilFunc]) .nil) 179 ([.nilFunc]) (.node 
  .nil 180 ([.nilFunc]) .nil)) 181 ([.nilFunc]) (.node (.node .nil 182 ([.nilFunc]) .nil) 183 ([.nilFunc]) (.node .nil 184 ([.slice none 0 0]) .nil))) 185 ([.nilFunc]) 
  (.node (.node (.node .nil 186 ([.nilFunc]) .nil) 187 ([.slice none 0 0]) (.node .nil 188 ([.nilFunc]) .nil)) 189 ([.nilFunc]) (.node (.node .nil 190 ([.slice none 
  0 0]) .nil) 191 ([.nilFunc]) (.node .nil 192 ([.nilFunc]) .nil)))) 193 ([.int .u8 0]) (.node (.node (.node (.node .nil 195 ([.nilFunc]) .nil) 196 ([.nilFunc]) (.node 
  .nil 197 ([.nilFunc]) .nil)) 198 ([.nilFunc]) (.node (.node .nil 199 ([.nilFunc]) .nil) 200 ([.pointer none]) (.node .nil 201 ([.slice none 0 0]) .nil))) 202 ([.nilFunc]) 
  (.node (.node (.node .nil 203 ([.nilFunc]) .nil) 204 ([.nilFunc]) (.node .nil 205 ([.nilFunc]) .nil)) 206 ([.nilFunc]) (.node (.node .nil 207 ([.nilFunc]) .nil) 
  209 ([.nilFunc]) (.node .nil 210 ([.nilFunc]) .nil)))))) 211 ([.nilFunc]) (.node (.node (.node (.node (.node (.node (.node .nil 212 ([.nilFunc]) .nil) 214 ([.nilFunc]) 
  .nil) 215 ([.nilFunc]) (.node .nil 216 ([.nilFunc]) .nil)) 217 ([.nilFunc]) (.node (.node .nil 218 ([.int .u64 0, .int .u8 0, .bool false, .int .u64 0, .int .i64 
  0]) .nil) 219 ([.int .u64 0, .int .u8 0, .bool false, .int .u64 0, .int .i64 0]) (.node .nil 220 ([.nilFunc]) .nil))) 221 ([.nilFunc]) (.node (.node (.node .nil 
  222 ([.nilFunc]) .nil) 223 ([.nilFunc]) (.node .nil 224 ([.nilFunc]) .nil)) 225 ([.nilFunc]) (.node (.node .nil 226 ([.int .u64 0, .int .u64 0]) .nil) 227 ([.int 
  .u64 0, .int .u64 0]) (.node .nil 228 ([.nilFunc]) .nil)))) 229 ([.nilFunc]) (.node (.node (.node (.node (.node .nil 230 ([.int .i64 0]) .nil) 232 ([.nilFunc]) .nil) 
  233 ([.nilFunc]) (.node .nil 234 ([.nilFunc]) .nil)) 235 ([.nilFunc]) (.node (.node .nil 236 ([.nilFunc]) .nil) 237 ([.nilFunc]) (.node .nil 238 ([.nilFunc]) .nil))) 
  239 ([.nilFunc]) (.node (.node (.node .nil 240 ([.nilFunc]) .nil) 242 ([.nilFunc]) (.node .nil 244 ([.nilFunc]) .nil)) 245 ([.bool false, .int .u64 0, .int .u64 
  0, .int .i64 0, .bool false]) (.node (.node .nil 246 ([.bool false, .int .u64 0, .int .u64 0, .int .i64 0, .bool false]) .nil) 247 ([.nilFunc]) (.node .nil 249 ([.nilFunc]) 
  .nil))))) 250 ([.int .u64 0]) (.node (.node (.node (.node (.node (.node .nil 251 ([.nilFunc]) .nil) 252 ([.nilFunc]) .nil) 253 ([.nilFunc]) (.node .nil 254 ([.pointer 
  none]) .nil)) 255 ([.nilFunc]) (.node (.node .nil 256 ([.nilFunc]) .nil) 257 ([.nilFunc]) (.node .nil 258 ([.nilFunc]) .nil))) 259 ([.pointer none]) (.node (.node 
  (.node .nil 261 ([.nilFunc]) .nil) 262 ([.nilFunc]) (.node .nil 263 ([.nilFunc]) .nil)) 264 ([.pointer none, .pointer none, .pointer none, .string ByteArray.empty]) 
  (.node (.node .nil 265 ([.pointer none, .pointer none, .pointer none, .string ByteArray.empty]) .nil) 266 ([]) (.node .nil 267 ([]) .nil)))) 268 ([]) (.node (.node 
  (.node (.node .nil 269 ([.int .u8 0]) .nil) 270 ([.int .u8 0]) (.node .nil 271 ([.nilFunc]) .nil)) 272 ([.pointer none]) (.node (.node .nil 273 ([.int .i32 0]) .nil) 
  274 ([.int .i32 0]) (.node .nil 275 ([.int .u64 0, .int .u64 0, .int .u32 0, .int .u8 0, .int .u8 0, .int .u8 0, .int .u8 0, .nilFunc, .pointer none, .int .i32 0, 
  .int .i32 0]) .nil))) 276 ([.int .u64 0, .int .u64 0, .int .u32 0, .int .u8 0, .int .u8 0, .int .u8 0, .int .u8 0, .nilFunc, .pointer none, .int .i32 0, .int .i32 
  0]) (.node (.node (.node .nil 277 ([.int .u8 0]) .nil) 278 ([.int .u8 0, .int .u8 0, .int .i64 0, .int .i64 0, .int .i64 0, .int .i64 0, .int .i64 0, .bool false, 
  .int .i32 0, .int .u64 0]) (.node .nil 279 ([.int .u8 0, .int .u8 0, .int .i64 0, .int .i64 0, .int .i64 0, .int .i64 0, .int .i64 0, .bool false, .int .i32 0, .int 
  .u64 0]) .nil)) 280 ([.int .u8 0]) (.node (.node .nil 281 ([.int .u8 0, .int .i64 0, .int .i64 0, .int .i64 0, .int .i64 0, .int .i64 0, .int .i64 0, .int .i32 0, 
  .int .i32 0, .slice none 0 0, .slice none 0 0]) .nil) 282 ([.int .u8 0, .int .i64 0, .int .i64 0, .int .i64 0, .int .i64 0, .int .i64 0, .int .i64 0, .int .i32 0, 
  .int .i32 0, .slice none 0 0, .slice none 0 0]) (.node .nil 283 ([.pointer none]) .nil)))))))) 
noncomputable def zsB : Bt (List (Option (Nat × Nat))) := (.node (.node (.node (.node (.node .nil 22 ([some (52, 9)]) .nil) 23 ([some (279, 10)]) (.node .nil 24 ([some (282, 11)]) .nil)) 25 ([some (3, 1)]) (.node (.node 
  .nil 26 ([none, some (52, 9), some (279, 10), some (282, 11), some (3, 1), some (3, 1), none]) .nil) 27 ([none, some (52, 9), some (279, 10), some (282, 11), some 
  (3, 1), some (3, 1), none]) (.node .nil 30 ([some (64, 19)]) .nil))) 31 ([none, none, none, none, some (64, 19)]) (.node (.node (.node .nil 32 ([none, none, none, 
  none, some (64, 19)]) .nil) 33 ([some (45, 1)]) (.node .nil 34 ([some (4, 1)]) .nil)) 37 ([some (50, 8)]) (.node (.node .nil 38 ([some (175, 1)]) .nil) 39 ([some 
  (175, 1)]) (.node .nil 40 ([none, some (175, 1), some (175, 1)]) .nil)))) 41 ([none, some (175, 1), some (175, 1)]) (.node (.node (.node (.node .nil 49 ([none, none, 
  none, none, none, some (175, 1), some (175, 1), none]) .nil) 50 ([none, none, none, none, none, some (175, 1), some (175, 1), none]) (.node .nil 60 ([some (103, 
  2)]) .nil)) 61 ([none, none, some (103, 2), none]) (.node (.node .nil 62 ([none, none, some (103, 2), none]) .nil) 63 ([none, none, none, none, none, none, none, 
  none, none, none, none, none, none, none, none, none, none, some (103, 2), none]) (.node .nil 64 ([none, none, none, none, none, none, none, none, none, none, none, 
  none, none, none, none, none, none, some (103, 2), none]) .nil))) 70 ([some (48, 4)]) (.node (.node (.node .nil 109 ([some (32, 5)]) .nil) 184 ([some (29, 3)]) (.node 
  .nil 187 ([some (59, 3)]) .nil)) 190 ([some (62, 4)]) (.node (.node .nil 201 ([some (200, 1)]) .nil) 281 ([none, none, none, none, none, none, none, none, none, 
  some (3, 1), some (3, 1)]) (.node .nil 282 ([none, none, none, none, none, none, none, none, none, some (3, 1), some (3, 1)]) .nil))))) 
noncomputable def keepB : Bt (List Nat) := (.node (.node (.node (.node (.node (.node (.node (.node .nil 2 ([]) .nil) 3 ([0, 1, 2, 3, 4, 5, 6, 10, 11, 12, 13, 14, 15, 16, 17, 18, 19, 20, 21, 22, 25, 49, 74, 
  98, 123]) (.node .nil 4 ([0, 1, 2, 3, 4, 5, 6, 7, 8, 12, 13, 14, 15, 16, 17, 18, 19, 22, 33, 42, 48, 62]) .nil)) 5 ([0, 1, 2, 3, 4, 5, 6, 8, 9, 10, 11, 12, 13, 14, 
  15, 16, 17, 18, 19, 20, 21, 22, 23, 26, 38, 46, 64, 114, 172, 217]) (.node (.node .nil 6 ([0, 1, 2, 3, 4, 5, 6, 7, 8, 9, 10, 11, 12, 13, 16, 22]) .nil) 7 ([0, 1, 
  2, 3, 4, 5, 6, 10, 11, 12, 13, 14, 15, 16, 17, 18, 21, 52, 58, 74, 79, 91, 118]) (.node .nil 8 ([0, 1, 2, 3, 4, 5, 8, 9, 10, 11, 12, 13, 14, 15, 18, 36]) .nil))) 
  9 ([0, 1, 2, 3, 4, 5, 6, 10, 11, 12, 13, 14, 15, 16, 19, 47]) (.node (.node (.node .nil 10 ([0, 1, 2, 3, 4, 5, 6, 7, 11, 12, 13, 14, 15, 16, 17, 18, 19, 20, 21, 
  22, 23, 26, 56, 73, 101]) .nil) 11 ([0, 1, 2, 3, 4, 5, 8, 9, 10, 11, 12, 13, 15, 17, 18, 20, 21, 24, 34, 45, 57, 78, 104]) (.node .nil 12 ([0, 1, 2, 3, 4, 5, 6, 
  7, 8, 30, 51]) .nil)) 13 ([0, 1, 2, 4, 5, 6, 10, 14, 23, 31, 45]) (.node (.node .nil 14 ([0, 2, 3, 4, 5, 6, 9, 10]) .nil) 15 ([0, 2, 5, 13]) .nil))) 16 ([0, 1, 2, 
  3, 4]) (.node (.node (.node (.node .nil 17 ([0, 1, 2]) .nil) 18 ([0, 1, 2, 3, 4, 5, 14, 16, 29]) (.node .nil 19 ([0, 1, 2, 3, 4, 6, 7, 8, 9, 10, 11, 12, 31, 33, 
  34, 35, 36, 57, 73]) .nil)) 20 ([0, 1, 2, 3, 4]) (.node (.node .nil 21 ([0, 1, 2, 3, 4, 5, 6, 7, 8, 9, 23, 27, 28, 29, 30, 47]) .nil) 22 ([0, 1, 2, 3, 4, 5, 8, 9, 
  10, 36, 38, 39, 40, 41, 58]) (.node .nil 23 ([0, 1, 3, 4, 5, 6, 10]) .nil))) 24 ([0, 1, 2, 3]) (.node (.node (.node .nil 25 ([0, 2]) .nil) 26 ([0, 2, 4]) (.node 
  .nil 27 ([0, 2, 3]) .nil)) 28 ([0, 2]) (.node (.node .nil 29 ([0, 1, 2, 3, 4, 6, 7, 16, 28]) .nil) 30 ([0, 1, 4, 5, 6, 7, 13, 18, 22]) .nil)))) 31 ([0, 2, 3, 6]) 
  (.node (.node (.node (.node (.node .nil 32 ([0, 1, 2, 3, 4, 5, 6, 7, 16, 20]) .nil) 33 ([0, 1, 2, 4, 5, 6, 7, 8, 9, 10, 11, 12, 17, 27, 41, 49, 50, 59, 60, 82, 83, 
  129]) (.node .nil 34 ([0, 1, 2, 3, 4]) .nil)) 35 ([0, 1, 2, 3, 4]) (.node (.node .nil 36 ([0, 1, 2, 3, 4]) .nil) 37 ([0, 1, 2, 3, 4, 10]) (.node .nil 38 ([0, 1, 
  2, 3, 21]) .nil))) 39 ([0, 1, 2, 3, 5, 7, 23, 24, 25, 26, 43]) (.node (.node (.node .nil 40 ([0, 1, 2, 3, 6, 7, 9]) .nil) 41 ([0, 1, 2, 3, 5, 6, 7, 10]) (.node .nil 
  42 ([0, 1, 2, 3, 4, 5, 6, 10]) .nil)) 43 ([0, 1, 2, 3, 4, 5, 6, 7, 8, 9, 10, 35, 49]) (.node (.node .nil 44 ([0, 1, 2, 3, 4]) .nil) 45 ([0, 1, 2, 3, 4, 5, 6, 7, 
  8, 9, 10, 14, 56]) .nil))) 46 ([0, 1, 2, 3, 4]) (.node (.node (.node (.node .nil 47 ([0, 1, 2, 3, 5, 8, 17, 18, 19, 20]) .nil) 48 ([0, 1, 2]) (.node .nil 49 ([0, 
  1, 2, 3, 4, 5, 6, 7, 8]) .nil)) 50 ([0, 1, 2, 3, 6]) (.node (.node .nil 51 ([0, 1, 2, 4, 5, 6, 23, 43]) .nil) 52 ([0, 1, 2, 3, 4]) (.node .nil 53 ([0, 1, 2, 3, 4, 
  5, 9]) .nil))) 54 ([0, 1, 2, 4, 5, 6, 7, 8, 10, 13, 34, 35, 36, 37, 43]) (.node (.node (.node .nil 55 ([0, 1, 2, 4, 12]) .nil) 56 ([0, 1, 2, 4, 5, 6, 7, 9, 11, 23, 
  35, 36, 37, 38]) (.node .nil 57 ([0, 1, 2, 4]) .nil)) 58 ([0]) (.node (.node .nil 59 ([0, 1]) .nil) 60 ([0, 1, 4]) .nil))))) 61 ([0, 2, 4, 5, 12, 19, 22, 29]) (.node 
  (.node (.node (.node (.node (.node .nil 62 ([0, 2, 3, 5, 6, 14, 15, 21]) .nil) 63 ([0, 1, 2, 6, 7, 8, 10, 17]) (.node .nil 64 ([0, 2, 4, 5, 17, 19, 25, 27]) .nil)) 
  65 ([0, 1, 2, 6, 7, 8, 11, 21]) (.node (.node .nil 66 ([0, 1, 2]) .nil) 67 ([0, 1, 4, 5, 6, 7, 8, 9, 10, 17, 18, 19, 20, 24, 25, 26, 27]) (.node .nil 68 ([0, 1, 
  4, 5, 6, 7, 15, 26, 29]) .nil))) 69 ([0, 1, 2, 3, 4, 5, 19]) (.node (.node (.node .nil 70 ([0, 1, 2, 3, 4, 6, 7, 8, 9, 10, 28, 36, 37, 38, 39, 57]) .nil) 71 ([1, 
  3, 4]) (.node .nil 72 ([1, 3, 4]) .nil)) 73 ([0, 1, 2, 3, 5, 6, 7, 8, 9, 19]) (.node (.node .nil 74 ([0, 1, 2, 3, 4]) .nil) 75 ([0, 1, 2, 4]) .nil))) 76 ([0, 1, 
  2, 3, 4, 6, 8, 9, 14, 34, 52]) (.node (.node (.node (.node .nil 77 ([0, 1, 2, 3, 6]) .nil) 78 ([0, 2]) (.node .nil 79 ([0, 1, 2, 3, 4]) .nil)) 80 ([0, 2]) (.node 
  (.node .nil 81 ([0, 2]) .nil) 82 ([0, 2]) (.node .nil 83 ([0, 2, 3, 9]) .nil))) 84 ([0, 2]) (.node (.node (.node .nil 85 ([0]) .nil) 86 ([1, 3, 4]) (.node .nil 87 
  ([0, 2, 3, 5, 7, 8, 9, 10, 26, 29]) .nil)) 88 ([0, 1, 2, 4, 5, 6]) (.node (.node .nil 89 ([0, 1, 2, 3, 4]) .nil) 90 ([0, 1, 2, 3, 4]) .nil)))) 91 ([0, 2, 3, 5, 7, 
  8, 9, 10, 28, 31]) (.node (.node (.node (.node (.node .nil 92 ([0, 2, 3, 5, 6, 7, 8, 9]) .nil) 93 ([0, 1, 4, 5, 6, 7, 15, 22, 25]) (.node .nil 94 ([0, 1, 2, 3, 5, 
  6, 7, 8, 16]) .nil)) 95 ([0, 1, 4]) (.node (.node .nil 96 ([0, 1, 2, 3, 5, 6, 13]) .nil) 97 ([0, 1, 2, 3, 4, 5, 6]) (.node .nil 98 ([0, 1, 2, 3, 4, 5, 6]) .nil))) 
  99 ([0, 1, 2, 3, 4, 14]) (.node (.node (.node .nil 100 ([0, 1, 3, 4]) .nil) 101 ([1, 3, 4]) (.node .nil 102 ([0, 1, 2]) .nil)) 103 ([0, 1, 2, 3, 4, 14]) (.node (.node 
  .nil 104 ([0, 1, 2, 3, 5, 8, 11, 12, 13, 14]) .nil) 105 ([0]) .nil))) 106 ([0, 2]) (.node (.node (.node (.node .nil 107 ([0, 2, 3]) .nil) 108 ([0, 1, 2, 3, 4, 5, 
  11]) (.node .nil 109 ([0, 1, 2, 4, 5, 7, 8, 20]) .nil)) 110 ([0, 2]) (.node (.node .nil 111 ([0]) .nil) 112 ([0, 2]) (.node .nil 113 ([0, 1, 2, 6]) .nil))) 114 ([0, 
  1, 2, 6, 7]) (.node (.node (.node .nil 115 ([0, 1, 2, 6, 7, 8, 9, 10, 18, 35, 65]) .nil) 116 ([0, 1, 2, 5, 6, 10]) (.node .nil 117 ([0, 1, 2, 9, 13, 29]) .nil)) 
  118 ([0, 1, 4, 5, 6, 7, 12, 13, 14]) (.node (.node .nil 119 ([0, 1, 4, 5, 6, 7, 8, 9, 13, 15, 16, 17]) .nil) 120 ([0, 1, 2]) .nil)))))) 121 ([0, 1, 2, 6, 7]) (.node 
  (.node (.node (.node (.node (.node (.node .nil 122 ([0, 2, 4]) .nil) 123 ([0, 1, 2, 3, 6, 7, 9]) (.node .nil 124 ([0, 1, 2, 3, 4, 5, 8, 9, 10]) .nil)) 125 ([0, 2, 
  4]) (.node (.node .nil 126 ([0, 1, 4]) .nil) 127 ([0, 2]) (.node .nil 128 ([0, 1, 2, 4, 26, 30, 31, 32, 33, 40]) .nil))) 129 ([0, 1, 4, 5, 6]) (.node (.node (.node 
  .nil 130 ([0, 1, 4, 5, 19]) .nil) 131 ([0, 1, 4, 5, 6]) (.node .nil 132 ([0, 1, 2, 3, 4, 5]) .nil)) 133 ([0, 2, 4]) (.node (.node .nil 134 ([0, 1]) .nil) 135 ([0, 
  1, 2, 3, 4, 5]) .nil))) 136 ([0, 1, 4]) (.node (.node (.node (.node .nil 137 ([0, 1, 2, 3, 4]) .nil) 138 ([0, 1, 4, 5, 6, 11, 12, 13, 16, 19]) (.node .nil 139 ([0, 
  1, 3, 4]) .nil)) 140 ([0, 2, 3]) (.node (.node .nil 141 ([0, 1, 2, 21]) .nil) 142 ([0, 2, 3, 4]) (.node .nil 143 ([0, 1, 4, 5, 6, 7, 8, 10, 15, 18, 32, 33, 34, 35]) 
  .nil))) 144 ([0, 2, 3, 4, 5]) (.node (.node (.node .nil 145 ([0, 2, 3, 8]) .nil) 146 ([0, 1, 4, 6, 16]) (.node .nil 147 ([0, 1, 4, 5, 6, 7, 8, 9, 10, 11, 12, 13, 
  18, 22, 29, 72]) .nil)) 148 ([0, 2, 14]) (.node (.node .nil 149 ([0, 1, 4, 8]) .nil) 150 ([0]) .nil)))) 151 ([0, 1, 2, 4, 5, 6, 11, 18]) (.node (.node (.node (.node 
  (.node .nil 152 ([0, 1, 2, 4, 5, 6, 12, 28]) .nil) 153 ([0, 1, 2, 3, 4]) (.node .nil 154 ([0, 1, 2, 3, 6, 16]) .nil)) 155 ([0, 1, 2, 20]) (.node (.node .nil 156 
  ([0, 1, 2, 3, 4]) .nil) 157 ([0, 2, 3]) (.node .nil 158 ([0]) .nil))) 159 ([0, 1, 2, 3, 4, 6]) (.node (.node (.node .nil 160 ([0, 1, 2, 3, 4]) .nil) 161 ([0]) (.node 
  .nil 162 ([0, 2]) .nil)) 163 ([0, 2, 3, 4, 5, 6, 18]) (.node (.node .nil 164 ([0, 1, 2, 3, 4, 14]) .nil) 165 ([0, 1, 2, 3, 4]) .nil))) 166 ([0, 1, 4]) (.node (.node 
  (.node (.node .nil 167 ([0, 1, 4, 5, 9]) .nil) 168 ([0]) (.node .nil 169 ([0]) .nil)) 170 ([0, 1, 4, 5, 6, 14]) (.node (.node .nil 171 ([0, 1, 4]) .nil) 172 ([0, 
  1, 2]) (.node .nil 173 ([0, 1, 4, 5, 7, 8, 9, 10, 11]) .nil))) 174 ([0, 1, 2, 6, 7, 8, 9, 14, 19, 38, 43, 48, 65, 77, 82, 105]) (.node (.node (.node .nil 175 ([0, 
  1, 4, 5, 6, 7, 12, 19, 29]) .nil) 176 ([0, 1, 2]) (.node .nil 177 ([0, 1, 4]) .nil)) 178 ([0, 1, 2]) (.node (.node .nil 179 ([0, 1, 2, 6, 7, 8, 9, 10, 20, 25, 37]) 
  .nil) 180 ([0, 1, 4, 5, 7, 10, 15, 16, 17, 18, 22, 27]) .nil))))) 181 ([0, 1, 4]) (.node (.node (.node (.node (.node (.node .nil 182 ([0, 1, 4]) .nil) 183 ([0, 1, 
  2, 5, 7]) (.node .nil 184 ([0, 1, 2, 6, 7, 8, 9, 13, 30, 35, 54]) .nil)) 185 ([0, 1, 2, 3, 4, 10, 11, 12, 13, 14, 15, 16, 17, 18, 19, 20, 25, 32, 39, 56, 75, 80, 
  97, 125]) (.node (.node .nil 186 ([0, 2]) .nil) 187 ([0, 2]) (.node .nil 188 ([0, 1, 3, 4, 5, 7, 8, 9, 16]) .nil))) 189 ([0, 2, 4, 8]) (.node (.node (.node .nil 
  190 ([0, 2, 4]) .nil) 191 ([0, 1, 4, 5, 6, 7]) (.node .nil 192 ([0, 2]) .nil)) 193 ([0, 1, 2, 6, 7, 8, 9, 13, 14, 15, 23]) (.node (.node .nil 194 ([0, 1, 4, 5, 6, 
  7, 8, 9, 10, 11, 12, 13, 14, 15, 64, 71, 73, 74, 75, 79, 110, 114, 115, 116, 120]) .nil) 195 ([0, 1, 4, 5, 6, 7, 14, 20, 21, 22]) .nil))) 196 ([0, 1, 2, 6]) (.node 
  (.node (.node (.node .nil 197 ([0, 1, 2, 6, 7, 8, 18, 24]) .nil) 198 ([0, 2]) (.node .nil 199 ([0, 2]) .nil)) 200 ([0, 1, 4, 5, 7, 8, 9, 16]) (.node (.node .nil 
  201 ([0, 2, 3, 4]) .nil) 202 ([0, 1, 2, 3, 4, 6]) (.node .nil 203 ([0]) .nil))) 204 ([0, 1]) (.node (.node (.node .nil 205 ([0, 2, 3]) .nil) 206 ([0, 1, 2, 3, 4, 
  6, 7, 8, 9, 10, 11, 33, 48, 52]) (.node .nil 207 ([0, 1, 4, 5, 7, 8, 9, 16]) .nil)) 208 ([0, 1, 2, 3, 4, 6, 10, 11, 12, 13, 18]) (.node (.node .nil 209 ([0, 1, 4, 
  5, 6]) .nil) 210 ([0, 1, 2, 3, 8, 9, 14, 34]) .nil)))) 211 ([0, 1, 2, 3, 4, 10, 11, 12, 13, 14, 15, 16, 17, 18, 19, 20, 21, 22, 23, 24, 28, 33, 50, 58, 80, 85, 103, 
  110, 140, 151, 171, 185, 199, 213]) (.node (.node (.node (.node (.node .nil 212 ([0, 1, 2, 3, 8, 9, 10, 11, 12, 21, 33]) .nil) 213 ([0, 1, 2, 8, 9, 10, 11, 12, 17, 
  35, 45]) (.node .nil 214 ([0, 1, 2, 3, 8, 9, 10, 11, 12, 13, 14, 34, 36, 55, 57, 60]) .nil)) 215 ([0, 1, 2, 8, 9, 15]) (.node (.node .nil 216 ([0, 1, 2, 3, 8, 9, 
  10, 11, 12, 16, 36, 41, 45, 65, 69, 84, 104, 109, 124]) .nil) 217 ([0, 1, 2, 3, 4, 10, 11, 12, 47, 65, 70]) (.node .nil 218 ([0, 1, 2, 3, 4, 10, 11, 12, 13, 47, 
  66, 71, 120, 139, 144]) .nil))) 219 ([0, 2, 4, 8, 14]) (.node (.node (.node .nil 220 ([0, 1, 2]) .nil) 221 ([0, 1, 2, 4, 6, 14, 17]) (.node .nil 222 ([0, 1, 2, 4, 
  5, 6, 8, 22, 26]) .nil)) 223 ([0, 1, 2, 3, 4, 5, 6, 7, 8]) (.node (.node .nil 224 ([0, 1, 2, 3, 4, 5, 6, 7, 8]) .nil) 225 ([0, 1, 2, 5]) .nil))) 226 ([0, 1, 2, 4, 
  5, 6, 7, 8, 9, 10, 11, 12, 13, 14, 15, 16, 36, 71, 75, 81, 90, 95, 100]) (.node (.node (.node (.node .nil 227 ([0, 1, 4, 5, 6, 7, 8, 9, 10, 11, 12, 13]) .nil) 228 
  ([0, 1, 2, 3, 4, 10, 11, 20, 23]) (.node .nil 229 ([0, 1, 2, 3, 4, 10, 11, 18, 40, 58]) .nil)) 230 ([0, 2]) (.node (.node .nil 231 ([0, 2]) .nil) 232 ([0, 1, 2, 
  3, 8]) (.node .nil 233 ([0, 1, 2, 3, 4, 5, 12]) .nil))) 234 ([0, 1, 3, 8, 18]) (.node (.node (.node .nil 237 ([0, 1, 2, 3, 4, 5, 10, 11, 19]) .nil) 238 ([0, 1, 2, 
  4, 5, 6, 12]) (.node .nil 239 ([0, 1, 2, 3, 10, 13]) .nil)) 240 ([0, 1, 2, 3, 4, 10, 11, 22]) (.node (.node .nil 241 ([0, 1, 2, 4]) .nil) 242 ([0, 1, 2, 4]) .nil))))))) 
noncomputable def dmB : Bt (Nat) := (.node (.node (.node (.node (.node (.node (.node (.node .nil 3088 (13) .nil) 3092 (13) .nil) 5142 (9) (.node .nil 8200 (6) .nil)) 8201 (6) (.node (.node .nil 8202 
  (6) .nil) 8203 (7) (.node .nil 9224 (16) .nil))) 9225 (14) (.node (.node (.node (.node .nil 9226 (10) .nil) 10247 (13) .nil) 10249 (13) (.node .nil 11282 (3) .nil)) 
  11283 (5) (.node (.node .nil 12295 (10) .nil) 12301 (50) (.node .nil 16385 (3) .nil)))) 18433 (3) (.node (.node (.node (.node (.node .nil 18438 (9) .nil) 20481 (4) 
  .nil) 21506 (7) (.node .nil 21512 (12) .nil)) 22534 (12) (.node (.node .nil 23557 (22) .nil) 24577 (7) (.node .nil 29704 (7) .nil))) 32770 (7) (.node (.node (.node 
  .nil 33799 (12) .nil) 36865 (4) (.node .nil 37891 (3) .nil)) 38918 (92) (.node (.node .nil 40963 (5) .nil) 41988 (7) (.node .nil 43011 (12) .nil))))) 43013 (7) (.node 
  (.node (.node (.node (.node (.node .nil 44033 (3) .nil) 44034 (14) .nil) 44036 (6) (.node .nil 45057 (3) .nil)) 46083 (3) (.node (.node .nil 46084 (23) .nil) 46090 
  (7) (.node .nil 47105 (3) .nil))) 47106 (15) (.node (.node (.node .nil 48131 (7) .nil) 48135 (9) (.node .nil 51204 (8) .nil)) 52229 (9) (.node (.node .nil 53249 
  (3) .nil) 54277 (5) (.node .nil 55311 (5) .nil)))) 56324 (4) (.node (.node (.node (.node (.node .nil 57353 (4) .nil) 57355 (5) .nil) 58369 (13) (.node .nil 74755 
  (7) .nil)) 74759 (17) (.node (.node .nil 75777 (3) .nil) 78849 (9) (.node .nil 80897 (5) .nil))) 90114 (32) (.node (.node (.node .nil 93190 (11) .nil) 96261 (12) 
  (.node .nil 98308 (5) .nil)) 99330 (9) (.node (.node .nil 100353 (4) .nil) 101377 (3) (.node .nil 101380 (11) .nil)))))) 104449 (4) (.node (.node (.node (.node (.node 
  (.node (.node .nil 105473 (3) .nil) 105476 (9) .nil) 111622 (11) (.node .nil 117765 (20) .nil)) 117766 (16) (.node (.node .nil 117767 (12) .nil) 117768 (12) (.node 
  .nil 117769 (12) .nil))) 118789 (4) (.node (.node (.node (.node .nil 125955 (4) .nil) 126979 (4) .nil) 131073 (20) (.node .nil 138241 (11) .nil)) 156673 (3) (.node 
  (.node .nil 158721 (9) .nil) 159745 (3) (.node .nil 162817 (3) .nil)))) 162818 (11) (.node (.node (.node (.node (.node .nil 167937 (3) .nil) 183305 (15) .nil) 187394 
  (4) (.node .nil 189457 (13) .nil)) 192516 (5) (.node (.node .nil 195593 (3) .nil) 198658 (12) (.node .nil 198660 (7) .nil))) 198661 (20) (.node (.node (.node .nil 
  210946 (15) .nil) 215044 (14) (.node .nil 215046 (9999) .nil)) 216069 (9) (.node (.node .nil 216075 (9999) .nil) 216081 (9) (.node .nil 216087 (9999) .nil))))) 216099 
  (11) (.node (.node (.node (.node (.node (.node .nil 217098 (9999) .nil) 218122 (9999) .nil) 220163 (9999) (.node .nil 221189 (14) .nil)) 221195 (9999) (.node (.node 
  .nil 221200 (10) .nil) 221201 (9999) (.node .nil 221206 (10) .nil))) 221207 (9999) (.node (.node (.node .nil 222209 (9999) .nil) 222211 (13) (.node .nil 222213 (13) 
  .nil)) 222216 (9999) (.node (.node .nil 223233 (9999) .nil) 223235 (13) (.node .nil 223237 (13) .nil)))) 223240 (9999) (.node (.node (.node (.node (.node .nil 223242 
  (9999) .nil) 223245 (13) .nil) 223247 (13) (.node .nil 223250 (9999) .nil)) 223253 (9999) (.node (.node .nil 226312 (14) .nil) 227338 (25) (.node .nil 231427 (7) 
  .nil))) 234499 (19) (.node (.node (.node .nil 234501 (13) .nil) 234502 (9999) (.node .nil 236545 (7) .nil)) 236546 (7) (.node (.node .nil 236547 (7) .nil) 244739 
  (9999) (.node .nil 245761 (9) .nil))))))) 
noncomputable def fnsB : Bt (Func) := (.node (.node (.node (.node (.node (.node (.node (.node .nil 2 (Tryz.f2) .nil) 3 (Tryz.f3) (.node .nil 4 (Tryz.f4) .nil)) 5 (Tryz.f5) (.node (.node .nil 6 (Tryz.f6) 
  .nil) 7 (Tryz.f7) (.node .nil 8 (Tryz.f8) .nil))) 9 (Tryz.f9) (.node (.node (.node .nil 10 (Tryz.f10) .nil) 11 (Tryz.f11) (.node .nil 12 (Tryz.f12) .nil)) 13 (Tryz.f13) 
  (.node (.node .nil 14 (Tryz.f14) .nil) 15 (Tryz.f15) .nil))) 16 (Tryz.f16) (.node (.node (.node (.node .nil 17 (Tryz.f17) .nil) 18 (Tryz.f18) (.node .nil 19 (Tryz.f19) 
  .nil)) 20 (Tryz.f20) (.node (.node .nil 21 (Tryz.f21) .nil) 22 (Tryz.f22) (.node .nil 23 (Tryz.f23) .nil))) 24 (Tryz.f24) (.node (.node (.node .nil 25 (Tryz.f25) 
  .nil) 26 (Tryz.f26) (.node .nil 27 (Tryz.f27) .nil)) 28 (Tryz.f28) (.node (.node .nil 29 (Tryz.f29) .nil) 30 (Tryz.f30) .nil)))) 31 (Tryz.f31) (.node (.node (.node 
  (.node (.node .nil 32 (Tryz.f32) .nil) 33 (Tryz.f33) (.node .nil 34 (Tryz.f34) .nil)) 35 (Tryz.f35) (.node (.node .nil 36 (Tryz.f36) .nil) 37 (Tryz.f37) (.node .nil 
  38 (Tryz.f38) .nil))) 39 (Tryz.f39) (.node (.node (.node .nil 40 (Tryz.f40) .nil) 41 (Tryz.f41) (.node .nil 42 (Tryz.f42) .nil)) 43 (Tryz.f43) (.node (.node .nil 
  44 (Tryz.f44) .nil) 45 (Tryz.f45) .nil))) 46 (Tryz.f46) (.node (.node (.node (.node .nil 47 (Tryz.f47) .nil) 48 (Tryz.f48) (.node .nil 49 (Tryz.f49) .nil)) 50 (Tryz.f50) 
  (.node (.node .nil 51 (Tryz.f51) .nil) 52 (Tryz.f52) (.node .nil 53 (Tryz.f53) .nil))) 54 (Tryz.f54) (.node (.node (.node .nil 55 (Tryz.f55) .nil) 56 (Tryz.f56) 
  (.node .nil 57 (Tryz.f57) .nil)) 58 (Tryz.f58) (.node (.node .nil 59 (Tryz.f59) .nil) 60 (Tryz.f60) .nil))))) 61 (Tryz.f61) (.node (.node (.node (.node (.node (.node 
  .nil 62 (Tryz.f62) .nil) 63 (Tryz.f63) (.node .nil 64 (Tryz.f64) .nil)) 65 (Tryz.f65) (.node (.node .nil 66 (Tryz.f66) .nil) 67 (Tryz.f67) (.node .nil 68 (Tryz.f68) 
  .nil))) 69 (Tryz.f69) (.node (.node (.node .nil 70 (Tryz.f70) .nil) 71 (Tryz.f71) (.node .nil 72 (Tryz.f72) .nil)) 73 (Tryz.f73) (.node (.node .nil 74 (Tryz.f74) 
  .nil) 75 (Tryz.f75) .nil))) 76 (Tryz.f76) (.node (.node (.node (.node .nil 77 (Tryz.f77) .nil) 78 (Tryz.f78) (.node .nil 79 (Tryz.f79) .nil)) 80 (Tryz.f80) (.node 
  (.node .nil 81 (Tryz.f81) .nil) 82 (Tryz.f82) (.node .nil 83 (Tryz.f83) .nil))) 84 (Tryz.f84) (.node (.node (.node .nil 85 (Tryz.f85) .nil) 86 (Tryz.f86) (.node 
  .nil 87 (Tryz.f87) .nil)) 88 (Tryz.f88) (.node (.node .nil 89 (Tryz.f89) .nil) 90 (Tryz.f90) .nil)))) 91 (Tryz.f91) (.node (.node (.node (.node (.node .nil 92 (Tryz.f92) 
  .nil) 93 (Tryz.f93) (.node .nil 94 (Tryz.f94) .nil)) 95 (Tryz.f95) (.node (.node .nil 96 (Tryz.f96) .nil) 97 (Tryz.f97) (.node .nil 98 (Tryz.f98) .nil))) 99 (Tryz.f99) 
  (.node (.node (.node .nil 100 (Tryz.f100) .nil) 101 (Tryz.f101) (.node .nil 102 (Tryz.f102) .nil)) 103 (Tryz.f103) (.node (.node .nil 104 (Tryz.f104) .nil) 105 (Tryz.f105) 
  .nil))) 106 (Tryz.f106) (.node (.node (.node (.node .nil 107 (Tryz.f107) .nil) 108 (Tryz.f108) (.node .nil 109 (Tryz.f109) .nil)) 110 (Tryz.f110) (.node (.node .nil 
  111 (Tryz.f111) .nil) 112 (Tryz.f112) (.node .nil 113 (Tryz.f113) .nil))) 114 (Tryz.f114) (.node (.node (.node .nil 115 (Tryz.f115) .nil) 116 (Tryz.f116) (.node 
  .nil 117 (Tryz.f117) .nil)) 118 (Tryz.f118) (.node (.node .nil 119 (Tryz.f119) .nil) 120 (Tryz.f120) .nil)))))) 121 (Tryz.f121) (.node (.node (.node (.node (.node 
  (.node (.node .nil 122 (Tryz.f122) .nil) 123 (Tryz.f123) (.node .nil 124 (Tryz.f124) .nil)) 125 (Tryz.f125) (.node (.node .nil 126 (Tryz.f126) .nil) 127 (Tryz.f127) 
  (.node .nil 128 (Tryz.f128) .nil))) 129 (Tryz.f129) (.node (.node (.node .nil 130 (Tryz.f130) .nil) 131 (Tryz.f131) (.node .nil 132 (Tryz.f132) .nil)) 133 (Tryz.f133) 
  (.node (.node .nil 134 (Tryz.f134) .nil) 135 (Tryz.f135) .nil))) 136 (Tryz.f136) (.node (.node (.node (.node .nil 137 (Tryz.f137) .nil) 138 (Tryz.f138) (.node .nil 
  139 (Tryz.f139) .nil)) 140 (Tryz.f140) (.node (.node .nil 141 (Tryz.f141) .nil) 142 (Tryz.f142) (.node .nil 143 (Tryz.f143) .nil))) 144 (Tryz.f144) (.node (.node 
  (.node .nil 145 (Tryz.f145) .nil) 146 (Tryz.f146) (.node .nil 147 (Tryz.f147) .nil)) 148 (Tryz.f148) (.node (.node .nil 149 (Tryz.f149) .nil) 150 (Tryz.f150) .nil)))) 
  151 (Tryz.f151) (.node (.node (.node (.node (.node .nil 152 (Tryz.f152) .nil) 153 (Tryz.f153) (.node .nil 154 (Tryz.f154) .nil)) 155 (Tryz.f155) (.node (.node .nil 
  156 (Tryz.f156) .nil) 157 (Tryz.f157) (.node .nil 158 (Tryz.f158) .nil))) 159 (Tryz.f159) (.node (.node (.node .nil 160 (Tryz.f160) .nil) 161 (Tryz.f161) (.node 
  .nil 162 (Tryz.f162) .nil)) 163 (Tryz.f163) (.node (.node .nil 164 (Tryz.f164) .nil) 165 (Tryz.f165) .nil))) 166 (Tryz.f166) (.node (.node (.node (.node .nil 167 
  (Tryz.f167) .nil) 168 (Tryz.f168) (.node .nil 169 (Tryz.f169) .nil)) 170 (Tryz.f170) (.node (.node .nil 171 (Tryz.f171) .nil) 172 (Tryz.f172) (.node .nil 173 (Tryz.f173) 
  .nil))) 174 (Tryz.f174) (.node (.node (.node .nil 175 (Tryz.f175) .nil) 176 (Tryz.f176) (.node .nil 177 (Tryz.f177) .nil)) 178 (Tryz.f178) (.node (.node .nil 179 
  (Tryz.f179) .nil) 180 (Tryz.f180) .nil))))) 181 (Tryz.f181) (.node (.node (.node (.node (.node (.node .nil 182 (Tryz.f182) .nil) 183 (Tryz.f183) (.node .nil 184 
  (Tryz.f184) .nil)) 185 (Tryz.f185) (.node (.node .nil 186 (Tryz.f186) .nil) 187 (Tryz.f187) (.node .nil 188 (Tryz.f188) .nil))) 189 (Tryz.f189) (.node (.node (.node 
  .nil 190 (Tryz.f190) .nil) 191 (Tryz.f191) (.node .nil 192 (Tryz.f192) .nil)) 193 (Tryz.f193) (.node (.node .nil 194 (Tryz.f194) .nil) 195 (Tryz.f195) .nil))) 196 
  (Tryz.f196) (.node (.node (.node (.node .nil 197 (Tryz.f197) .nil) 198 (Tryz.f198) (.node .nil 199 (Tryz.f199) .nil)) 200 (Tryz.f200) (.node (.node .nil 201 (Tryz.f201) 
  .nil) 202 (Tryz.f202) (.node .nil 203 (Tryz.f203) .nil))) 204 (Tryz.f204) (.node (.node (.node .nil 205 (Tryz.f205) .nil) 206 (Tryz.f206) (.node .nil 207 (Tryz.f207) 
  .nil)) 208 (Tryz.f208) (.node (.node .nil 209 (Tryz.f209) .nil) 210 (Tryz.f210) .nil)))) 211 (Tryz.f211) (.node (.node (.node (.node (.node .nil 212 (Tryz.f212) 
  .nil) 213 (Tryz.f213) (.node .nil 214 (Tryz.f214) .nil)) 215 (Tryz.f215) (.node (.node .nil 216 (Tryz.f216) .nil) 217 (Tryz.f217) (.node .nil 218 (Tryz.f218) .nil))) 
  219 (Tryz.f219) (.node (.node (.node .nil 220 (Tryz.f220) .nil) 221 (Tryz.f221) (.node .nil 222 (Tryz.f222) .nil)) 223 (Tryz.f223) (.node (.node .nil 224 (Tryz.f224) 
  .nil) 225 (Tryz.f225) .nil))) 226 (Tryz.f226) (.node (.node (.node (.node .nil 227 (Tryz.f227) .nil) 228 (Tryz.f228) (.node .nil 229 (Tryz.f229) .nil)) 230 (Tryz.f230) 
  (.node (.node .nil 231 (Tryz.f231) .nil) 232 (Tryz.f232) (.node .nil 233 (Tryz.f233) .nil))) 234 (Tryz.f234) (.node (.node (.node .nil 237 (Tryz.f237) .nil) 238 
  (Tryz.f238) (.node .nil 239 (Tryz.f239) .nil)) 240 (Tryz.f240) (.node (.node .nil 241 (Tryz.f241) .nil) 242 (Tryz.f242) .nil))))))) 
noncomputable def mdB : Bt (Nat) := (.node (.node (.node (.node (.node .nil 115 (2) .nil) 116 (2) .nil) 117 (4) (.node .nil 123 (2) .nil)) 124 (2) (.node (.node (.node .nil 132 (1) .nil) 134 (3) .nil) 
  136 (3) (.node .nil 139 (3) .nil))) 175 (4) (.node (.node (.node (.node .nil 183 (2) .nil) 184 (3) .nil) 185 (3) (.node .nil 188 (3) .nil)) 193 (2) (.node (.node 
  (.node .nil 194 (3) .nil) 200 (3) .nil) 207 (3) (.node .nil 210 (3) .nil)))) 
noncomputable def smlB : Bt (Unit) := (.node (.node (.node (.node (.node (.node (.node (.node (.node .nil 0 (()) .nil) 1 (()) .nil) 2 (()) (.node .nil 3 (()) .nil)) 4 (()) (.node (.node .nil 5 (()) .nil) 
  6 (()) (.node .nil 7 (()) .nil))) 8 (()) (.node (.node (.node (.node .nil 9 (()) .nil) 10 (()) .nil) 11 (()) (.node .nil 12 (()) .nil)) 13 (()) (.node (.node .nil 
  14 (()) .nil) 15 (()) (.node .nil 16 (()) .nil)))) 17 (()) (.node (.node (.node (.node (.node .nil 18 (()) .nil) 19 (()) .nil) 20 (()) (.node .nil 21 (()) .nil)) 
  22 (()) (.node (.node .nil 23 (()) .nil) 24 (()) (.node .nil 25 (()) .nil))) 26 (()) (.node (.node (.node (.node .nil 27 (()) .nil) 28 (()) .nil) 29 (()) (.node 
  .nil 30 (()) .nil)) 31 (()) (.node (.node .nil 32 (()) .nil) 33 (()) (.node .nil 34 (()) .nil))))) 35 (()) (.node (.node (.node (.node (.node (.node .nil 36 (()) 
  .nil) 37 (()) .nil) 38 (()) (.node .nil 39 (()) .nil)) 40 (()) (.node (.node .nil 41 (()) .nil) 42 (()) (.node .nil 43 (()) .nil))) 44 (()) (.node (.node (.node 
  (.node .nil 45 (()) .nil) 46 (()) .nil) 47 (()) (.node .nil 48 (()) .nil)) 49 (()) (.node (.node .nil 50 (()) .nil) 51 (()) (.node .nil 52 (()) .nil)))) 53 (()) 
  (.node (.node (.node (.node (.node .nil 54 (()) .nil) 55 (()) .nil) 56 (()) (.node .nil 57 (()) .nil)) 58 (()) (.node (.node .nil 59 (()) .nil) 60 (()) (.node .nil 
  61 (()) .nil))) 62 (()) (.node (.node (.node (.node .nil 63 (()) .nil) 64 (()) .nil) 65 (()) (.node .nil 66 (()) .nil)) 67 (()) (.node (.node .nil 68 (()) .nil) 
  69 (()) (.node .nil 70 (()) .nil)))))) 71 (()) (.node (.node (.node (.node (.node (.node (.node .nil 72 (()) .nil) 73 (()) .nil) 74 (()) (.node .nil 75 (()) .nil)) 
  76 (()) (.node (.node .nil 77 (()) .nil) 78 (()) (.node .nil 79 (()) .nil))) 80 (()) (.node (.node (.node (.node .nil 81 (()) .nil) 82 (()) .nil) 83 (()) (.node 
  .nil 84 (()) .nil)) 85 (()) (.node (.node .nil 86 (()) .nil) 87 (()) (.node .nil 88 (()) .nil)))) 89 (()) (.node (.node (.node (.node (.node .nil 90 (()) .nil) 91 
  (()) .nil) 92 (()) (.node .nil 93 (()) .nil)) 94 (()) (.node (.node .nil 95 (()) .nil) 96 (()) (.node .nil 97 (()) .nil))) 98 (()) (.node (.node (.node (.node .nil 
  99 (()) .nil) 100 (()) .nil) 101 (()) (.node .nil 102 (()) .nil)) 103 (()) (.node (.node .nil 104 (()) .nil) 105 (()) (.node .nil 106 (()) .nil))))) 107 (()) (.node 
  (.node (.node (.node (.node (.node .nil 108 (()) .nil) 109 (()) .nil) 110 (()) (.node .nil 111 (()) .nil)) 112 (()) (.node (.node .nil 113 (()) .nil) 114 (()) (.node 
  .nil 115 (()) .nil))) 116 (()) (.node (.node (.node (.node .nil 117 (()) .nil) 118 (()) .nil) 119 (()) (.node .nil 120 (()) .nil)) 121 (()) (.node (.node .nil 122 
  (()) .nil) 123 (()) (.node .nil 124 (()) .nil)))) 125 (()) (.node (.node (.node (.node (.node .nil 126 (()) .nil) 127 (()) .nil) 128 (()) (.node .nil 129 (()) .nil)) 
  130 (()) (.node (.node .nil 131 (()) .nil) 132 (()) (.node .nil 133 (()) .nil))) 134 (()) (.node (.node (.node .nil 135 (()) .nil) 136 (()) (.node .nil 137 (()) 
  .nil)) 138 (()) (.node (.node .nil 139 (()) .nil) 140 (()) (.node .nil 141 (()) .nil))))))) 142 (()) (.node (.node (.node (.node (.node (.node (.node (.node .nil 
  143 (()) .nil) 144 (()) .nil) 145 (()) (.node .nil 146 (()) .nil)) 147 (()) (.node (.node .nil 148 (()) .nil) 149 (()) (.node .nil 150 (()) .nil))) 151 (()) (.node 
  (.node (.node (.node .nil 152 (()) .nil) 153 (()) .nil) 154 (()) (.node .nil 155 (()) .nil)) 156 (()) (.node (.node .nil 157 (()) .nil) 158 (()) (.node .nil 159 
  (()) .nil)))) 160 (()) (.node (.node (.node (.node (.node .nil 161 (()) .nil) 162 (()) .nil) 163 (()) (.node .nil 164 (()) .nil)) 165 (()) (.node (.node .nil 166 
  (()) .nil) 167 (()) (.node .nil 168 (()) .nil))) 169 (()) (.node (.node (.node (.node .nil 170 (()) .nil) 171 (()) .nil) 172 (()) (.node .nil 173 (()) .nil)) 174 
  (()) (.node (.node .nil 175 (()) .nil) 176 (()) (.node .nil 177 (()) .nil))))) 178 (()) (.node (.node (.node (.node (.node (.node .nil 179 (()) .nil) 180 (()) .nil) 
  181 (()) (.node .nil 182 (()) .nil)) 183 (()) (.node (.node .nil 184 (()) .nil) 185 (()) (.node .nil 186 (()) .nil))) 187 (()) (.node (.node (.node (.node .nil 188 
  (()) .nil) 189 (()) .nil) 190 (()) (.node .nil 191 (()) .nil)) 192 (()) (.node (.node .nil 193 (()) .nil) 194 (()) (.node .nil 195 (()) .nil)))) 196 (()) (.node 
  (.node (.node (.node (.node .nil 197 (()) .nil) 198 (()) .nil) 199 (()) (.node .nil 200 (()) .nil)) 201 (()) (.node (.node .nil 202 (()) .nil) 203 (()) (.node .nil 
  204 (()) .nil))) 205 (()) (.node (.node (.node .nil 206 (()) .nil) 207 (()) (.node .nil 208 (()) .nil)) 209 (()) (.node (.node .nil 210 (()) .nil) 211 (()) (.node 
  .nil 212 (()) .nil)))))) 213 (()) (.node (.node (.node (.node (.node (.node (.node .nil 214 (()) .nil) 215 (()) .nil) 216 (()) (.node .nil 217 (()) .nil)) 218 (()) 
  (.node (.node .nil 219 (()) .nil) 220 (()) (.node .nil 221 (()) .nil))) 222 (()) (.node (.node (.node (.node .nil 223 (()) .nil) 224 (()) .nil) 225 (()) (.node .nil 
  226 (()) .nil)) 227 (()) (.node (.node .nil 228 (()) .nil) 229 (()) (.node .nil 230 (()) .nil)))) 231 (()) (.node (.node (.node (.node (.node .nil 232 (()) .nil) 
  233 (()) .nil) 234 (()) (.node .nil 235 (()) .nil)) 236 (()) (.node (.node .nil 237 (()) .nil) 238 (()) (.node .nil 239 (()) .nil))) 240 (()) (.node (.node (.node 
  (.node .nil 241 (()) .nil) 242 (()) .nil) 243 (()) (.node .nil 244 (()) .nil)) 245 (()) (.node (.node .nil 246 (()) .nil) 247 (()) (.node .nil 248 (()) .nil))))) 
  249 (()) (.node (.node (.node (.node (.node (.node .nil 250 (()) .nil) 251 (()) .nil) 252 (()) (.node .nil 253 (()) .nil)) 254 (()) (.node (.node .nil 255 (()) .nil) 
  256 (()) (.node .nil 257 (()) .nil))) 258 (()) (.node (.node (.node (.node .nil 259 (()) .nil) 260 (()) .nil) 261 (()) (.node .nil 262 (()) .nil)) 263 (()) (.node 
  (.node .nil 264 (()) .nil) 265 (()) (.node .nil 266 (()) .nil)))) 267 (()) (.node (.node (.node (.node (.node .nil 268 (()) .nil) 269 (()) .nil) 270 (()) (.node 
  .nil 271 (()) .nil)) 272 (()) (.node (.node .nil 273 (()) .nil) 274 (()) (.node .nil 275 (()) .nil))) 276 (()) (.node (.node (.node .nil 277 (()) .nil) 278 (()) 
  (.node .nil 279 (()) .nil)) 280 (()) (.node (.node .nil 281 (()) .nil) 282 (()) (.node .nil 283 (()) .nil)))))))) 
noncomputable def goB : Bt (Unit) := (.node (.node (.node (.node (.node (.node (.node (.node .nil 2 (()) .nil) 3 (()) (.node .nil 4 (()) .nil)) 5 (()) (.node (.node .nil 6 (()) .nil) 7 (()) (.node .nil 
  8 (()) .nil))) 9 (()) (.node (.node (.node .nil 10 (()) .nil) 11 (()) (.node .nil 12 (()) .nil)) 13 (()) (.node (.node .nil 14 (()) .nil) 15 (()) .nil))) 16 (()) 
  (.node (.node (.node (.node .nil 17 (()) .nil) 18 (()) (.node .nil 19 (()) .nil)) 20 (()) (.node (.node .nil 21 (()) .nil) 22 (()) (.node .nil 23 (()) .nil))) 24 
  (()) (.node (.node (.node .nil 25 (()) .nil) 26 (()) (.node .nil 27 (()) .nil)) 28 (()) (.node (.node .nil 29 (()) .nil) 30 (()) .nil)))) 31 (()) (.node (.node (.node 
  (.node (.node .nil 32 (()) .nil) 33 (()) (.node .nil 34 (()) .nil)) 35 (()) (.node (.node .nil 36 (()) .nil) 37 (()) (.node .nil 38 (()) .nil))) 39 (()) (.node (.node 
  (.node .nil 40 (()) .nil) 41 (()) (.node .nil 42 (()) .nil)) 43 (()) (.node (.node .nil 44 (()) .nil) 45 (()) .nil))) 46 (()) (.node (.node (.node (.node .nil 47 
  (()) .nil) 48 (()) (.node .nil 49 (()) .nil)) 50 (()) (.node (.node .nil 51 (()) .nil) 52 (()) (.node .nil 53 (()) .nil))) 54 (()) (.node (.node (.node .nil 55 (()) 
  .nil) 56 (()) (.node .nil 57 (()) .nil)) 58 (()) (.node (.node .nil 59 (()) .nil) 60 (()) .nil))))) 61 (()) (.node (.node (.node (.node (.node (.node .nil 62 (()) 
  .nil) 63 (()) (.node .nil 64 (()) .nil)) 65 (()) (.node (.node .nil 66 (()) .nil) 67 (()) (.node .nil 68 (()) .nil))) 69 (()) (.node (.node (.node .nil 70 (()) .nil) 
  71 (()) (.node .nil 72 (()) .nil)) 73 (()) (.node (.node .nil 74 (()) .nil) 75 (()) .nil))) 76 (()) (.node (.node (.node (.node .nil 77 (()) .nil) 78 (()) (.node 
  .nil 79 (()) .nil)) 80 (()) (.node (.node .nil 81 (()) .nil) 82 (()) (.node .nil 83 (()) .nil))) 84 (()) (.node (.node (.node .nil 85 (()) .nil) 86 (()) (.node .nil 
  87 (()) .nil)) 88 (()) (.node (.node .nil 89 (()) .nil) 90 (()) .nil)))) 91 (()) (.node (.node (.node (.node (.node .nil 92 (()) .nil) 93 (()) (.node .nil 94 (()) 
  .nil)) 95 (()) (.node (.node .nil 96 (()) .nil) 97 (()) (.node .nil 98 (()) .nil))) 99 (()) (.node (.node (.node .nil 100 (()) .nil) 101 (()) (.node .nil 102 (()) 
  .nil)) 103 (()) (.node (.node .nil 104 (()) .nil) 105 (()) .nil))) 106 (()) (.node (.node (.node (.node .nil 107 (()) .nil) 108 (()) (.node .nil 109 (()) .nil)) 
  110 (()) (.node (.node .nil 111 (()) .nil) 112 (()) (.node .nil 113 (()) .nil))) 114 (()) (.node (.node (.node .nil 115 (()) .nil) 116 (()) (.node .nil 117 (()) 
  .nil)) 118 (()) (.node (.node .nil 119 (()) .nil) 120 (()) .nil)))))) 121 (()) (.node (.node (.node (.node (.node (.node (.node .nil 122 (()) .nil) 123 (()) (.node 
  .nil 124 (()) .nil)) 125 (()) (.node (.node .nil 126 (()) .nil) 127 (()) (.node .nil 128 (()) .nil))) 129 (()) (.node (.node (.node .nil 130 (()) .nil) 131 (()) 
  (.node .nil 132 (()) .nil)) 133 (()) (.node (.node .nil 134 (()) .nil) 135 (()) .nil))) 136 (()) (.node (.node (.node (.node .nil 137 (()) .nil) 138 (()) (.node 
  .nil 139 (()) .nil)) 140 (()) (.node (.node .nil 141 (()) .nil) 142 (()) (.node .nil 143 (()) .nil))) 144 (()) (.node (.node (.node .nil 145 (()) .nil) 146 (()) 
  (.node .nil 147 (()) .nil)) 148 (()) (.node (.node .nil 149 (()) .nil) 150 (()) .nil)))) 151 (()) (.node (.node (.node (.node (.node .nil 152 (()) .nil) 153 (()) 
  (.node .nil 154 (()) .nil)) 155 (()) (.node (.node .nil 156 (()) .nil) 157 (()) (.node .nil 158 (()) .nil))) 159 (()) (.node (.node (.node .nil 160 (()) .nil) 161 
  (()) (.node .nil 162 (()) .nil)) 163 (()) (.node (.node .nil 164 (()) .nil) 165 (()) .nil))) 166 (()) (.node (.node (.node (.node .nil 167 (()) .nil) 168 (()) (.node 
  .nil 169 (()) .nil)) 170 (()) (.node (.node .nil 171 (()) .nil) 172 (()) (.node .nil 173 (()) .nil))) 174 (()) (.node (.node (.node .nil 175 (()) .nil) 176 (()) 
  (.node .nil 177 (()) .nil)) 178 (()) (.node (.node .nil 179 (()) .nil) 180 (()) .nil))))) 181 (()) (.node (.node (.node (.node (.node (.node .nil 182 (()) .nil) 
  183 (()) (.node .nil 184 (()) .nil)) 185 (()) (.node (.node .nil 186 (()) .nil) 187 (()) (.node .nil 188 (()) .nil))) 189 (()) (.node (.node (.node .nil 190 (()) 
  .nil) 191 (()) (.node .nil 192 (()) .nil)) 193 (()) (.node (.node .nil 194 (()) .nil) 195 (()) .nil))) 196 (()) (.node (.node (.node (.node .nil 197 (()) .nil) 198 
  (()) (.node .nil 199 (()) .nil)) 200 (()) (.node (.node .nil 201 (()) .nil) 202 (()) (.node .nil 203 (()) .nil))) 204 (()) (.node (.node (.node .nil 205 (()) .nil) 
  206 (()) (.node .nil 207 (()) .nil)) 208 (()) (.node (.node .nil 209 (()) .nil) 210 (()) .nil)))) 211 (()) (.node (.node (.node (.node (.node .nil 212 (()) .nil) 
  213 (()) (.node .nil 214 (()) .nil)) 215 (()) (.node (.node .nil 216 (()) .nil) 217 (()) (.node .nil 218 (()) .nil))) 219 (()) (.node (.node (.node .nil 220 (()) 
  .nil) 221 (()) (.node .nil 222 (()) .nil)) 223 (()) (.node (.node .nil 224 (()) .nil) 225 (()) .nil))) 226 (()) (.node (.node (.node (.node .nil 227 (()) .nil) 228 
  (()) (.node .nil 229 (()) .nil)) 230 (()) (.node (.node .nil 231 (()) .nil) 232 (()) (.node .nil 233 (()) .nil))) 234 (()) (.node (.node (.node .nil 237 (()) .nil) 
  238 (()) (.node .nil 239 (()) .nil)) 240 (()) (.node (.node .nil 241 (()) .nil) 242 (()) .nil))))))) 
noncomputable def jnB : Bt (Unit) := (.node .nil 226 (()) .nil) 
noncomputable def ozB : Bt (Unit) := (.node (.node .nil 147 (()) .nil) 194 (()) .nil) 
noncomputable def bzB : Bt (Unit) := (.node (.node (.node (.node .nil 42 (()) .nil) 45 (()) .nil) 47 (()) (.node .nil 51 (()) .nil)) 53 (()) (.node (.node .nil 54 (()) .nil) 70 (()) (.node .nil 81 (()) 
  .nil))) 
noncomputable def fbB : Bt (Unit) := (.node (.node (.node (.node (.node (.node (.node .nil 12293 (()) .nil) 12294 (()) .nil) 16390 (()) (.node .nil 16391 (()) .nil)) 16392 (()) (.node (.node .nil 20484 
  (()) .nil) 20485 (()) (.node .nil 20486 (()) .nil))) 24579 (()) (.node (.node (.node (.node .nil 24580 (()) .nil) 24581 (()) .nil) 28677 (()) (.node .nil 28678 (()) 
  .nil)) 32772 (()) (.node (.node .nil 32773 (()) .nil) 53250 (()) (.node .nil 77827 (()) .nil)))) 77828 (()) (.node (.node (.node (.node (.node .nil 81922 (()) .nil) 
  81923 (()) .nil) 86019 (()) (.node .nil 90116 (()) .nil)) 90117 (()) (.node (.node .nil 94211 (()) .nil) 98305 (()) (.node .nil 118786 (()) .nil))) 118787 (()) (.node 
  (.node (.node .nil 131075 (()) .nil) 139266 (()) (.node .nil 139267 (()) .nil)) 143362 (()) (.node (.node .nil 143363 (()) .nil) 147458 (()) (.node .nil 147459 (()) 
  .nil))))) 151554 (()) (.node (.node (.node (.node (.node (.node .nil 282625 (()) .nil) 286723 (()) .nil) 286724 (()) (.node .nil 294915 (()) .nil)) 299011 (()) (.node 
  (.node .nil 299013 (()) .nil) 311300 (()) (.node .nil 311302 (()) .nil))) 315397 (()) (.node (.node (.node .nil 323586 (()) .nil) 323587 (()) (.node .nil 352259 
  (()) .nil)) 360452 (()) (.node (.node .nil 364546 (()) .nil) 364547 (()) (.node .nil 368642 (()) .nil)))) 368643 (()) (.node (.node (.node (.node (.node .nil 385029 
  (()) .nil) 397315 (()) .nil) 397317 (()) (.node .nil 401411 (()) .nil)) 401412 (()) (.node (.node .nil 401413 (()) .nil) 417793 (()) (.node .nil 577537 (()) .nil))) 
  618498 (()) (.node (.node (.node .nil 622594 (()) .nil) 638978 (()) (.node .nil 638979 (()) .nil)) 655362 (()) (.node (.node .nil 655363 (()) .nil) 675842 (()) (.node 
  .nil 675843 (()) .nil)))))) 
noncomputable def nzB : Bt (Nat) := .nil 
noncomputable def lvB : Bt (List Nat) := (.node (.node (.node (.node (.node (.node .nil 3 ([2, 3, 4, 5, 6, 11, 13, 14, 15, 96, 97, 116, 117, 118, 119, 120, 121, 122, 139, 140, 141, 142, 143, 144, 145, 146, 
  147, 148, 149, 150, 151, 155, 156, 157, 158, 159, 160]) .nil) 5 ([3, 4, 5, 6, 9, 10, 11, 12, 13, 58, 59, 62, 63, 83, 84, 85, 86, 87, 90, 91, 92, 93, 102, 103, 104, 
  107, 108, 109, 110, 111, 112, 113, 117, 138, 139, 140, 141, 142, 145, 146, 147, 148, 149, 152, 153, 154, 155, 156, 170, 171, 185, 188, 189, 192, 193, 194, 195, 196, 
  197, 198, 199, 200, 201, 204, 205, 206, 207, 208, 209, 210, 211, 212, 213, 220, 223, 224, 225, 226, 227, 228, 231, 232, 233, 234, 235, 236, 237]) (.node .nil 7 ([2, 
  3, 4, 5, 11, 14, 15, 16, 17, 102, 103, 104, 105, 106, 107, 108, 111, 112, 113, 114, 115, 116, 117, 125, 126, 127, 128, 129]) .nil)) 11 ([2, 3, 4, 5, 9, 10, 12, 13, 
  15, 17, 111, 112, 113, 114, 115, 118, 119, 120, 121, 122, 125, 126, 127, 128, 129, 130, 133, 134, 135, 136, 140, 141, 142, 143, 144, 145, 146, 147, 148, 149, 150, 
  151, 152, 153]) (.node (.node .nil 13 ([1, 5, 6]) .nil) 19 ([2, 3, 33, 34, 35, 55, 56, 69, 70, 71, 72]) (.node .nil 21 ([3, 4, 5, 27, 28, 29]) .nil))) 22 ([2, 3, 
  4, 38, 39, 40]) (.node (.node (.node .nil 23 ([0, 3, 5, 6, 26, 27, 28, 29, 30, 31]) .nil) 33 ([1, 2, 5, 6, 33, 34, 35, 36, 37, 38, 39, 40, 56, 57, 58, 65, 66, 67, 
  70, 71, 72, 73, 74, 77, 78, 79, 80, 81, 104, 105, 106, 109, 110, 113, 114, 117, 118, 121, 122, 125, 126, 127, 128]) (.node .nil 39 ([1, 3, 23, 24, 25, 34, 35, 36, 
  39, 40, 41, 42, 51, 52, 53, 56, 57, 58, 61, 62, 63, 64]) .nil)) 47 ([2, 3, 17, 18, 19]) (.node (.node .nil 54 ([2, 4, 7, 8, 34, 35, 36]) .nil) 56 ([5, 7, 9, 35, 
  36, 37]) .nil))) 67 ([1, 5, 6, 7, 8, 17, 18, 19, 24, 25, 26]) (.node (.node (.node (.node .nil 68 ([0, 1, 5]) .nil) 70 ([2, 3, 6, 7, 36, 37, 38]) (.node .nil 87 
  ([2, 3, 7, 8, 9]) .nil)) 91 ([2, 3, 7, 8, 9]) (.node (.node .nil 92 ([3, 6, 7, 8]) .nil) 104 ([1, 3, 11, 12, 13]) .nil)) 109 ([1, 2, 4, 5, 7]) (.node (.node (.node 
  .nil 115 ([0, 1, 2, 7, 15, 16, 17, 40, 41, 42, 43, 44, 45, 46, 47, 48, 49, 50, 51, 52, 53, 70, 71, 72, 73, 74, 75, 76, 77, 78]) .nil) 118 ([0, 1, 5, 6, 12, 13]) 
  (.node .nil 119 ([0, 1, 6, 7, 15, 16]) .nil)) 128 ([1, 2, 30, 31, 32]) (.node (.node .nil 143 ([1, 7, 8, 32, 33, 34]) .nil) 146 ([0, 1]) .nil)))) 147 ([9, 10, 11, 
  12, 13]) (.node (.node (.node (.node (.node .nil 148 ([0, 7, 8, 9, 10, 11, 12, 13]) .nil) 173 ([0, 5, 8, 9, 10]) (.node .nil 175 ([0, 1, 5, 6]) .nil)) 180 ([1, 5, 
  15, 16, 17]) (.node (.node .nil 184 ([0, 1, 2, 6, 7, 8]) .nil) 185 ([0, 1, 2, 3, 4, 10, 11, 70, 73, 74, 84, 85, 86, 87, 88, 89, 90, 91, 92, 93, 94, 95, 96]) .nil)) 
  188 ([0, 3, 7, 8]) (.node (.node (.node .nil 193 ([0, 1, 7, 13, 14]) .nil) 194 ([0, 1, 5, 7, 8, 9, 10, 11, 14, 46, 47, 48, 49, 50, 51, 52, 53, 54, 55, 56, 57, 58, 
  59, 60, 61, 62, 63, 73, 74, 114, 115]) (.node .nil 195 ([1, 5, 6, 20, 21]) .nil)) 200 ([0, 1, 7, 8]) (.node (.node .nil 207 ([0, 1, 7, 8]) .nil) 210 ([0, 1, 2, 3, 
  8, 9, 22, 23, 24, 25, 26, 27, 28, 29, 30, 31, 32, 33]) .nil))) 211 ([0, 1, 2, 3, 4, 10, 11, 13, 14, 15, 17, 18, 19, 20, 21, 22, 182, 183, 184, 196, 197, 198, 210, 
  211, 212]) (.node (.node (.node (.node .nil 212 ([0, 3, 8, 9, 10, 11, 12]) .nil) 213 ([0, 1, 8, 9, 10, 11]) (.node .nil 215 ([0, 8, 9]) .nil)) 216 ([0, 1, 2, 3, 
  9, 10, 11, 12, 23, 24, 25, 26, 27, 28, 29, 30, 31, 32, 33, 34, 35]) (.node (.node .nil 217 ([0, 1, 4, 11, 12, 35, 36, 37, 38, 39, 40, 41, 42, 43, 44, 45, 46, 54, 
  55, 56, 57, 58, 59, 60, 61, 62, 63, 64]) .nil) 218 ([0, 1, 4, 12, 13, 36, 37, 38, 39, 40, 41, 42, 43, 44, 45, 46, 54, 55, 56, 57, 58, 59, 60, 61, 62, 63, 64, 65, 
  109, 110, 111, 112, 113, 114, 115, 116, 117, 118, 119, 127, 128, 129, 130, 131, 132, 133, 134, 135, 136, 137, 138]) .nil)) 221 ([1, 2, 4]) (.node (.node (.node .nil 
  222 ([1, 2, 4, 6, 13, 14, 15, 46, 47, 48, 49, 50, 51]) .nil) 226 ([1, 2, 6, 7, 8, 9, 10, 13, 14, 15, 89]) (.node .nil 228 ([0, 2, 4, 10, 11]) .nil)) 229 ([0, 2, 
  3, 4, 10, 24, 25, 26, 27, 28, 29, 30, 31, 32, 33, 34, 35, 36, 37, 38, 39]) (.node (.node .nil 234 ([0, 1, 3]) .nil) 239 ([0, 1, 2, 3, 10]) .nil))))) 
noncomputable def bts : Bts := ⟨tyB, kdB, foB, elB, zeB, zsB, smlB, fun _ => none, keepB, dmB, mdB, fnsB, goB, jnB, ozB, bzB, fbB, nzB, lvB, ([(235, 0), (236, 1)] : List (Nat × Nat))⟩
theorem k_ty : tyB.mp (fun k _ => Ty Tryz.prog k) = tyB.mp fun _ v => some v := by kernel_rfl
theorem k_kd : kdB.mp (fun k v => kdOf Tryz.prog k v) = kdB.mp fun _ v => some v := by kernel_rfl
theorem k_fo : foB.mp (fun k _ => Fo Tryz.prog (k / 64) (k % 64)) = foB.mp fun _ v => some v := by kernel_rfl
theorem k_al : foB.mp (fun k _ => allTy Tryz.prog (k / 64)) = foB.mp fun _ _ => true := by kernel_rfl
theorem k_el : elB.mp (fun k _ => El Tryz.prog k) = elB.mp fun _ v => some v := by kernel_rfl
theorem k_ze : zeB.mp (fun k _ => Ze Tryz.prog k) = zeB.mp fun _ v => some v := by kernel_rfl
theorem k_zc : zeB.mp (fun _ v => v.all cOne) = zeB.mp fun _ _ => true := by kernel_rfl
theorem k_sml : smlB.mp (fun k _ => Nat.ble (Tryz.prog.bytesOf k) 256) = smlB.mp fun _ _ => true := by kernel_rfl
theorem k_fns : fnsB.mp (fun k _ => Tryz.prog.funcs[k]?) = fnsB.mp fun _ v => some v := by kernel_rfl
theorem k_gf : fnsB.mp (fun k _ => (goB.get k).isSome) = fnsB.mp fun _ _ => true := by kernel_rfl
theorem k_go : goB.mp (fun k _ => goesB Tryz.prog k) = goB.mp fun _ _ => true := by kernel_rfl
theorem k_mo : Tryz.prog.follows .mixedOrders = true := by kernel_rfl
theorem k_ex : ∀ p ∈ ([(235, 0), (236, 1)] : List (Nat × Nat)), ExtOK Tryz.prog p.1 p.2 := (ex_cons ⟨Tryz.f235, by kernel_rfl, by kernel_rfl, by kernel_rfl, by kernel_rfl, by kernel_rfl⟩ (ex_cons ⟨Tryz.f236, by kernel_rfl, by kernel_rfl, by kernel_rfl, by kernel_rfl, by kernel_rfl⟩ ex_nil))
theorem btsOK : BtsOK Tryz.prog bts := ⟨k_ty, k_kd, k_fo, k_al, k_el, k_ze, k_zc, k_sml, k_fns, k_gf, k_go, k_mo, k_ex⟩
theorem k_ok : fnsB.mp (fun f fn => match fn.body with | some c => okC fn.ntmps bts.tbl f c | none => true) = fnsB.mp fun _ _ => true := by kernel_rfl
noncomputable abbrev tb : Tbl := bts.tbl
end Su
