/-
  An evaluator of the program's functions over trees of values, proved sound. No condition.
-/
import Derived.Test.YtfckjjffdfkelaaGreatProg
import Derived.Test.YtfckjjffdfkelaaGreatSuSd
import Derived.KernelRfl
set_option linter.unusedVariables false
set_option linter.unusedSimpArgs false
namespace Su
noncomputable section
open Go Go.Proofs Fly
set_option maxRecDepth 100000
abbrev nd{α:Type}(l:Bt α)(k:Nat)(v:α)(r:Bt α):Bt α:=.node l k v r
abbrev lf{α:Type}(k:Nat)(v:α):Bt α:=.node .nil k v .nil
abbrev p1:Bool×Nat:=(false,1)
def tyB:Bt (Bool×Nat):=(nd (nd (nd (nd (nd (nd (nd (nd (lf 0 p1) 1 p1 .nil) 2 p1 (lf 3 p1)) 4 p1 (nd (lf 5 p1) 6 p1 (lf 7 (true,4)))) 8 (true,4) (nd (nd (nd (lf 9 p1) 10 p1 .nil) 11 
 p1 (lf 12 p1)) 13 (true,2) (nd (lf 14 (true,2)) 15 p1 (lf 16 p1)))) 17 p1 (nd (nd (nd (nd (lf 18 (true,1)) 19 (true,1) .nil) 20 p1 (lf 21 p1)) 22 p1 (nd (lf 
 23 p1) 24 p1 (lf 25 p1))) 26 (true,7) (nd (nd (nd (lf 27 (true,7)) 28 (true,3) .nil) 29 (true,3) (lf 30 p1)) 31 (true,5) (nd (lf 32 (true,5)) 33 p1 (lf 34 
 p1))))) 35 p1 (nd (nd (nd (nd (nd (lf 36 p1) 37 p1 .nil) 38 p1 (lf 39 p1)) 40 (true,3) (nd (lf 41 (true,3)) 42 p1 (lf 43 p1))) 44 p1 (nd (nd (nd (lf 45 p1) 46 
 p1 .nil) 47 (true,4) (lf 48 (true,4))) 49 (true,8) (nd (lf 50 (true,8)) 51 (true,9) (lf 52 (true,9))))) 53 p1 (nd (nd (nd (nd (lf 54 (true,2)) 55 (true,2) 
 .nil) 56 (true,6) (lf 57 (true,6))) 58 (true,3) (nd (lf 59 (true,3)) 60 p1 (lf 61 (true,4)))) 62 (true,4) (nd (nd (nd (lf 63 (true,19)) 64 (true,19) .nil) 
 65 p1 (lf 66 p1)) 67 p1 (nd (lf 68 p1) 69 p1 (lf 70 p1)))))) 71 p1 (nd (nd (nd (nd (nd (nd (lf 72 p1) 73 p1 .nil) 74 p1 (lf 75 p1)) 76 p1 (nd (lf 77 p1) 78 p1 (lf 
 79 p1))) 80 p1 (nd (nd (nd (lf 81 p1) 82 p1 .nil) 83 p1 (lf 84 p1)) 85 p1 (nd (lf 86 p1) 87 p1 (lf 88 p1)))) 89 p1 (nd (nd (nd (nd (lf 90 p1) 91 p1 .nil) 92 p1 (lf 
 93 p1)) 94 p1 (nd (lf 95 p1) 96 p1 (lf 97 p1))) 98 p1 (nd (nd (nd (lf 99 p1) 100 p1 .nil) 101 p1 (lf 102 (true,2))) 103 (true,2) (nd (lf 104 p1) 105 p1 (lf 106 
 p1))))) 107 p1 (nd (nd (nd (nd (nd (lf 108 p1) 109 p1 .nil) 110 p1 (lf 111 p1)) 112 p1 (nd (lf 113 p1) 114 p1 (lf 115 p1))) 116 p1 (nd (nd (nd (lf 117 p1) 118 p1 
 .nil) 119 p1 (lf 120 p1)) 121 p1 (nd (lf 122 p1) 123 p1 (lf 124 p1)))) 125 p1 (nd (nd (nd (nd (lf 126 p1) 127 p1 .nil) 128 p1 (lf 129 p1)) 130 p1 (nd (lf 131 p1) 
 132 p1 (lf 133 p1))) 134 p1 (nd (nd (lf 135 p1) 136 p1 (lf 137 p1)) 138 p1 (nd (lf 139 p1) 140 p1 (lf 141 p1))))))) 142 p1 (nd (nd (nd (nd (nd (nd (nd (lf 143 p1) 
 144 p1 .nil) 145 p1 (lf 146 p1)) 147 p1 (nd (lf 148 p1) 149 p1 (lf 150 p1))) 151 p1 (nd (nd (nd (lf 152 p1) 153 p1 .nil) 154 p1 (lf 155 p1)) 156 p1 (nd (lf 157 p1) 
 158 p1 (lf 159 p1)))) 160 p1 (nd (nd (nd (nd (lf 161 p1) 162 p1 .nil) 163 p1 (lf 164 p1)) 165 p1 (nd (lf 166 p1) 167 p1 (lf 168 p1))) 169 p1 (nd (nd (nd (lf 170 
 p1) 171 p1 .nil) 172 p1 (lf 173 p1)) 174 p1 (nd (lf 175 p1) 176 p1 (lf 177 p1))))) 178 p1 (nd (nd (nd (nd (nd (lf 179 p1) 180 p1 .nil) 181 p1 (lf 182 p1)) 183 p1 
 (nd (lf 184 p1) 185 p1 (lf 186 p1))) 187 p1 (nd (nd (nd (lf 188 p1) 189 p1 .nil) 190 p1 (lf 191 p1)) 192 p1 (nd (lf 193 p1) 194 p1 (lf 195 p1)))) 196 p1 (nd (nd 
 (nd (nd (lf 197 p1) 198 p1 .nil) 199 p1 (lf 200 p1)) 201 p1 (nd (lf 202 p1) 203 p1 (lf 204 p1))) 205 p1 (nd (nd (lf 206 p1) 207 p1 (lf 208 p1)) 209 p1 (nd (lf 210 
 p1) 211 p1 (lf 212 p1)))))) 213 p1 (nd (nd (nd (nd (nd (nd (lf 214 p1) 215 p1 .nil) 216 p1 (lf 217 p1)) 218 (true,5) (nd (lf 219 (true,5)) 220 p1 (lf 221 p1))) 
 222 p1 (nd (nd (nd (lf 223 p1) 224 p1 .nil) 225 p1 (lf 226 (true,2))) 227 (true,2) (nd (lf 228 p1) 229 p1 (lf 230 p1)))) 231 p1 (nd (nd (nd (nd (lf 232 p1) 233 
 p1 .nil) 234 p1 (lf 235 p1)) 236 p1 (nd (lf 237 p1) 238 p1 (lf 239 p1))) 240 p1 (nd (nd (nd (lf 241 p1) 242 p1 .nil) 243 p1 (lf 244 p1)) 245 (true,5) (nd (lf 246 
 (true,5)) 247 p1 (lf 248 p1))))) 249 p1 (nd (nd (nd (nd (nd (lf 250 p1) 251 p1 .nil) 252 p1 (lf 253 p1)) 254 p1 (nd (lf 255 p1) 256 p1 (lf 257 p1))) 258 p1 (nd 
 (nd (nd (lf 259 p1) 260 p1 .nil) 261 p1 (lf 262 p1)) 263 p1 (nd (lf 264 (true,4)) 265 (true,4) (lf 266 (true,0))))) 267 (true,0) (nd (nd (nd (nd (lf 268 (true,
 0)) 269 p1 .nil) 270 p1 (lf 271 p1)) 272 p1 (nd (lf 273 p1) 274 p1 (lf 275 (true,11)))) 276 (true,11) (nd (nd (lf 277 p1) 278 (true,10) (lf 279 (true,10))) 280 
 p1 (nd (lf 281 (true,11)) 282 (true,11) (lf 283 p1)))))))) 
def kdB:Bt (Kd):=(nd (nd (nd (nd (nd (lf 2 (.int .i64)) 3 (.int .i64) .nil) 4 .bool (nd (lf 5 (.int .u8)) 6 (.int .u8) .nil)) 7 (.flat [.int .i64,.int .i64,.bool,.int .u8]) (nd 
 (nd (lf 8 (.flat [.int .i64,.int .i64,.bool,.int .u8])) 9 .str .nil) 10 .str (nd (lf 11 .str) 12 (.int .u64) .nil))) 21 (.int .i32) (nd (nd (nd (lf 28 (.flat 
 [.bool,.int .i64,.int .i64])) 29 (.flat [.bool,.int .i64,.int .i64]) .nil) 44 (.int .u64) (nd (lf 45 (.int .u64)) 46 (.int .u8) .nil)) 47 (.flat [.int .u8,.bool,
 .int .i32,.int .u64]) (nd (nd (lf 48 (.flat [.int .u8,.bool,.int .i32,.int .u64])) 51 (.flat [.string,.int .i64,.int .i64,.int .u8,.bool,.int .u64,.int 
 .u64,.int .i32,.int .i32]) .nil) 52 (.flat [.string,.int .i64,.int .i64,.int .u8,.bool,.int .u64,.int .u64,.int .i32,.int .i32]) (nd (lf 54 (.flat [.bool,
 .bool])) 55 (.flat [.bool,.bool]) .nil)))) 58 (.flat [.bool,.int .u64,.int .u64]) (nd (nd (nd (nd (lf 59 (.flat [.bool,.int .u64,.int .u64])) 102 (.flat [.int 
 .i64,.int .u64]) .nil) 103 (.flat [.int .i64,.int .u64]) (nd (lf 110 (.int .u8)) 114 (.int .i64) .nil)) 117 (.int .u64) (nd (nd (lf 154 (.int .u8)) 175 (.int .u32) 
 .nil) 193 (.int .u8) (nd (lf 218 (.flat [.int .u64,.int .u8,.bool,.int .u64,.int .i64])) 219 (.flat [.int .u64,.int .u8,.bool,.int .u64,.int .i64]) .nil))) 
 226 (.flat [.int .u64,.int .u64]) (nd (nd (nd (lf 227 (.flat [.int .u64,.int .u64])) 230 (.int .i64) .nil) 250 (.int .u64) (nd (lf 269 (.int .u8)) 270 (.int .u8) 
 .nil)) 273 (.int .i32) (nd (nd (lf 274 (.int .i32)) 277 (.int .u8) .nil) 278 (.flat [.int .u8,.int .u8,.int .i64,.int .i64,.int .i64,.int .i64,.int .i64,.bool,
 .int .i32,.int .u64]) (nd (lf 279 (.flat [.int .u8,.int .u8,.int .i64,.int .i64,.int .i64,.int .i64,.int .i64,.bool,.int .i32,.int .u64])) 280 (.int .u8) 
 .nil))))) 
def foB:Bt (Nat×Bool×Nat):=(nd (nd (nd (nd (nd (nd (nd (lf 448 (0,false,1)) 449 (1,false,1) (lf 450 (2,false,1))) 451 (3,false,1) (nd (lf 512 (0,false,1)) 513 (1,false,1) .nil)) 
 514 (2,false,1) (nd (nd (lf 515 (3,false,1)) 832 (0,false,1) (lf 833 (1,false,1))) 896 (0,false,1) (nd (lf 897 (1,false,1)) 1152 (0,false,1) .nil))) 
 1216 (0,false,1) (nd (nd (nd (lf 1664 (0,false,1)) 1665 (1,false,1) (lf 1666 (2,false,1))) 1667 (3,false,1) (nd (lf 1668 (4,false,1)) 1669 (5,false,
 1) .nil)) 1670 (6,false,1) (nd (nd (lf 1728 (0,false,1)) 1729 (1,false,1) .nil) 1730 (2,false,1) (nd (lf 1731 (3,false,1)) 1732 (4,false,1) .nil)))) 
 1733 (5,false,1) (nd (nd (nd (nd (lf 1734 (6,false,1)) 1792 (0,false,1) (lf 1793 (1,false,1))) 1794 (2,false,1) (nd (lf 1856 (0,false,1)) 1857 (1,false,
 1) .nil)) 1858 (2,false,1) (nd (nd (lf 1984 (0,false,1)) 1985 (1,true,3) .nil) 1986 (4,false,1) (nd (lf 2048 (0,false,1)) 2049 (1,true,3) .nil))) 2050 
 (4,false,1) (nd (nd (nd (lf 2560 (0,false,1)) 2561 (1,false,1) (lf 2562 (2,false,1))) 2624 (0,false,1) (nd (lf 2625 (1,false,1)) 2626 (2,false,1) .nil)) 
 3008 (0,false,1) (nd (nd (lf 3009 (1,false,1)) 3010 (2,false,1) .nil) 3011 (3,false,1) (nd (lf 3072 (0,false,1)) 3073 (1,false,1) .nil))))) 3074 (2,
 false,1) (nd (nd (nd (nd (nd (lf 3075 (3,false,1)) 3136 (0,true,4) (lf 3137 (4,true,3))) 3138 (7,false,1) (nd (lf 3200 (0,true,4)) 3201 (4,true,3) .nil)) 
 3202 (7,false,1) (nd (nd (lf 3264 (0,false,1)) 3265 (1,false,1) (lf 3266 (2,false,1))) 3267 (3,false,1) (nd (lf 3268 (4,false,1)) 3269 (5,false,1) 
 .nil))) 3270 (6,false,1) (nd (nd (nd (lf 3271 (7,false,1)) 3272 (8,false,1) (lf 3328 (0,false,1))) 3329 (1,false,1) (nd (lf 3330 (2,false,1)) 3331 (3,
 false,1) .nil)) 3332 (4,false,1) (nd (nd (lf 3333 (5,false,1)) 3334 (6,false,1) .nil) 3335 (7,false,1) (nd (lf 3336 (8,false,1)) 3456 (0,false,1) .nil)))) 
 3457 (1,false,1) (nd (nd (nd (nd (lf 3520 (0,false,1)) 3521 (1,false,1) (lf 3584 (0,true,3))) 3585 (3,true,3) (nd (lf 3648 (0,true,3)) 3649 (3,true,
 3) .nil)) 3712 (0,false,1) (nd (nd (lf 3713 (1,false,1)) 3714 (2,false,1) .nil) 3776 (0,false,1) (nd (lf 3777 (1,false,1)) 3778 (2,false,1) .nil))) 3904 
 (0,false,1) (nd (nd (nd (lf 3905 (1,false,1)) 3906 (2,false,1) (lf 3907 (3,false,1))) 3968 (0,false,1) (nd (lf 3969 (1,false,1)) 3970 (2,false,1) .nil)) 
 3971 (3,false,1) (nd (nd (lf 4032 (0,true,2)) 4033 (2,true,3) .nil) 4034 (5,true,6) (nd (lf 4035 (11,true,3)) 4036 (14,false,1) .nil)))))) 4037 (15,
 true,4) (nd (nd (nd (nd (nd (nd (lf 4096 (0,true,2)) 4097 (2,true,3) (lf 4098 (5,true,6))) 4099 (11,true,3) (nd (lf 4100 (14,false,1)) 4101 (15,true,
 4) .nil)) 6528 (0,false,1) (nd (nd (lf 6529 (1,false,1)) 6592 (0,false,1) (lf 6593 (1,false,1))) 13952 (0,false,1) (nd (lf 13953 (1,false,1)) 13954 (2,
 false,1) .nil))) 13955 (3,false,1) (nd (nd (nd (lf 13956 (4,false,1)) 14016 (0,false,1) (lf 14017 (1,false,1))) 14018 (2,false,1) (nd (lf 14019 (3,false,
 1)) 14020 (4,false,1) .nil)) 14464 (0,false,1) (nd (nd (lf 14465 (1,false,1)) 14528 (0,false,1) .nil) 14529 (1,false,1) (nd (lf 15680 (0,false,1)) 15681 
 (1,true,2) .nil)))) 15682 (3,false,1) (nd (nd (nd (nd (lf 15683 (4,false,1)) 15744 (0,false,1) (lf 15745 (1,true,2))) 15746 (3,false,1) (nd (lf 15747 
 (4,false,1)) 16896 (0,false,1) .nil)) 16897 (1,false,1) (nd (nd (lf 16898 (2,false,1)) 16899 (3,false,1) .nil) 16960 (0,false,1) (nd (lf 16961 (1,false,
 1)) 16962 (2,false,1) .nil))) 16963 (3,false,1) (nd (nd (nd (lf 17600 (0,false,1)) 17601 (1,false,1) (lf 17602 (2,false,1))) 17603 (3,false,1) (nd (lf 
 17604 (4,false,1)) 17605 (5,false,1) .nil)) 17606 (6,false,1) (nd (nd (lf 17607 (7,false,1)) 17608 (8,false,1) .nil) 17609 (9,false,1) (nd (lf 17610 
 (10,false,1)) 17664 (0,false,1) .nil))))) 17665 (1,false,1) (nd (nd (nd (nd (nd (lf 17666 (2,false,1)) 17667 (3,false,1) (lf 17668 (4,false,1))) 17669 
 (5,false,1) (nd (lf 17670 (6,false,1)) 17671 (7,false,1) .nil)) 17672 (8,false,1) (nd (nd (lf 17673 (9,false,1)) 17674 (10,false,1) .nil) 17792 (0,false,
 1) (nd (lf 17793 (1,false,1)) 17794 (2,false,1) .nil))) 17795 (3,false,1) (nd (nd (nd (lf 17796 (4,false,1)) 17797 (5,false,1) (lf 17798 (6,false,1))) 
 17799 (7,false,1) (nd (lf 17800 (8,false,1)) 17801 (9,false,1) .nil)) 17856 (0,false,1) (nd (nd (lf 17857 (1,false,1)) 17858 (2,false,1) .nil) 17859 
 (3,false,1) (nd (lf 17860 (4,false,1)) 17861 (5,false,1) .nil)))) 17862 (6,false,1) (nd (nd (nd (nd (lf 17863 (7,false,1)) 17864 (8,false,1) (lf 17865 
 (9,false,1))) 17984 (0,false,1) (nd (lf 17985 (1,false,1)) 17986 (2,false,1) .nil)) 17987 (3,false,1) (nd (nd (lf 17988 (4,false,1)) 17989 (5,false,
 1) .nil) 17990 (6,false,1) (nd (lf 17991 (7,false,1)) 17992 (8,false,1) .nil))) 17993 (9,false,1) (nd (nd (nd (lf 17994 (10,false,1)) 18048 (0,false,
 1) (lf 18049 (1,false,1))) 18050 (2,false,1) (nd (lf 18051 (3,false,1)) 18052 (4,false,1) .nil)) 18053 (5,false,1) (nd (nd (lf 18054 (6,false,1)) 18055 
 (7,false,1) .nil) 18056 (8,false,1) (nd (lf 18057 (9,false,1)) 18058 (10,false,1) .nil))))))) 
def elB:Bt (Nat×Nat):=(nd (nd (nd (nd (lf 22 (52,9)) 23 (279,10) .nil) 24 (282,11) (lf 25 (3,1))) 30 (64,19) (nd (lf 33 (45,1)) 34 (4,1) (lf 37 (50,8)))) 38 (175,1) (nd (nd (nd 
 (lf 39 (175,1)) 60 (103,2) .nil) 70 (48,4) (lf 109 (32,5))) 184 (29,3) (nd (lf 187 (59,3)) 190 (62,4) (lf 201 (200,1))))) 
def zeB:Bt (List Value):=(nd (nd (nd (nd (nd (nd (nd (nd (lf 1 [.nilFunc]) 2 [.int .i64 0] .nil) 3 [.int .i64 0] (lf 4 [.bool false])) 5 [.int .u8 0] (nd (lf 6 [.int .u8 0]) 7 [.int .i64 
 0,.int .i64 0,.bool false,.int .u8 0] (lf 8 [.int .i64 0,.int .i64 0,.bool false,.int .u8 0]))) 9 [.string ByteArray.empty] (nd (nd (lf 10 [.string ByteArray.empty]) 
 11 [.string ByteArray.empty] (lf 12 [.int .u64 0])) 13 [.string ByteArray.empty,.int .u64 0] (nd (lf 14 [.string ByteArray.empty,.int .u64 0]) 15 [.pointer none] 
 (lf 16 [.pointer none])))) 17 [.pointer none] (nd (nd (nd (nd (lf 18 [.pointer none]) 19 [.pointer none] .nil) 20 [.nilIface] (lf 21 [.int .i32 0])) 22 [.slice none 
 0 0] (nd (lf 23 [.slice none 0 0]) 24 [.slice none 0 0] (lf 25 [.slice none 0 0]))) 26 [.int .i64 0,.slice none 0 0,.slice none 0 0,.slice none 0 0,.slice none 
 0 0,.slice none 0 0,.int .i64 0] (nd (nd (lf 27 [.int .i64 0,.slice none 0 0,.slice none 0 0,.slice none 0 0,.slice none 0 0,.slice none 0 0,.int .i64 0]) 
 28 [.bool false,.int .i64 0,.int .i64 0] (lf 29 [.bool false,.int .i64 0,.int .i64 0])) 30 [.slice none 0 0] (nd (lf 31 [.bool false,.bool false,.int .i64 
 0,.int .i64 0,.slice none 0 0]) 32 [.bool false,.bool false,.int .i64 0,.int .i64 0,.slice none 0 0] (lf 33 [.slice none 0 0]))))) 34 [.slice none 0 0] (nd 
 (nd (nd (nd (nd (lf 35 [.nilFunc]) 36 [.nilFunc] .nil) 37 [.slice none 0 0] (lf 38 [.slice none 0 0])) 39 [.slice none 0 0] (nd (lf 40 [.bool false,.slice none 
 0 0,.slice none 0 0]) 41 [.bool false,.slice none 0 0,.slice none 0 0] (lf 43 [.nilFunc]))) 44 [.int .u64 0] (nd (nd (lf 45 [.int .u64 0]) 46 [.int .u8 0] (lf 
 47 [.int .u8 0,.bool false,.int .i32 0,.int .u64 0])) 48 [.int .u8 0,.bool false,.int .i32 0,.int .u64 0] (nd (lf 49 [.int .u8 0,.bool false,.int .i32 0,
 .int .u64 0,.bool false,.slice none 0 0,.slice none 0 0,.bool false]) 50 [.int .u8 0,.bool false,.int .i32 0,.int .u64 0,.bool false,.slice none 0 0,.slice 
 none 0 0,.bool false] (lf 51 [.string ByteArray.empty,.int .i64 0,.int .i64 0,.int .u8 0,.bool false,.int .u64 0,.int .u64 0,.int .i32 0,.int .i32 0])))) 
 52 [.string ByteArray.empty,.int .i64 0,.int .i64 0,.int .u8 0,.bool false,.int .u64 0,.int .u64 0,.int .i32 0,.int .i32 0] (nd (nd (nd (lf 53 [.nilFunc]) 
 54 [.bool false,.bool false] (lf 55 [.bool false,.bool false])) 56 [.bool false,.int .i64 0,.int .i64 0,.bool false,.int .i64 0,.int .i64 0] (nd (lf 57 [.bool 
 false,.int .i64 0,.int .i64 0,.bool false,.int .i64 0,.int .i64 0]) 58 [.bool false,.int .u64 0,.int .u64 0] (lf 59 [.bool false,.int .u64 0,.int .u64 0]))) 
 60 [.slice none 0 0] (nd (nd (lf 61 [.bool false,.int .u64 0,.slice none 0 0,.int .u64 0]) 62 [.bool false,.int .u64 0,.slice none 0 0,.int .u64 0] (lf 63 
 [.bool false,.bool false,.bool false,.int .i64 0,.int .i64 0,.bool false,.int .i64 0,.int .i64 0,.bool false,.int .i64 0,.int .i64 0,.bool false,.int 
 .u64 0,.int .u64 0,.int .u64 0,.bool false,.int .u64 0,.slice none 0 0,.int .u64 0])) 64 [.bool false,.bool false,.bool false,.int .i64 0,.int .i64 0,
 .bool false,.int .i64 0,.int .i64 0,.bool false,.int .i64 0,.int .i64 0,.bool false,.int .u64 0,.int .u64 0,.int .u64 0,.bool false,.int .u64 0,.slice 
 none 0 0,.int .u64 0] (nd (lf 65 [.nilFunc]) 66 [.nilFunc] (lf 67 [.nilFunc])))))) 68 [.nilFunc] (nd (nd (nd (nd (nd (nd (lf 69 [.nilFunc]) 70 [.slice none 0 0] 
 .nil) 71 [.nilFunc] (lf 72 [.nilFunc])) 73 [.nilFunc] (nd (lf 74 [.nilFunc]) 75 [.nilFunc] (lf 76 [.nilFunc]))) 77 [.nilFunc] (nd (nd (lf 78 [.nilFunc]) 79 [.nilFunc] 
 (lf 80 [.nilFunc])) 81 [.nilFunc] (nd (lf 83 [.nilFunc]) 84 [.nilFunc] (lf 85 [.nilFunc])))) 86 [.nilFunc] (nd (nd (nd (nd (lf 87 [.nilFunc]) 88 [.nilFunc] .nil) 
 89 [.nilFunc] (lf 90 [.nilFunc])) 91 [.nilFunc] (nd (lf 92 [.nilFunc]) 93 [.nilFunc] (lf 94 [.nilFunc]))) 95 [.nilFunc] (nd (nd (lf 96 [.nilFunc]) 97 [.nilFunc] 
 (lf 98 [.nilFunc])) 99 [.nilFunc] (nd (lf 100 [.nilFunc]) 101 [.nilFunc] (lf 102 [.int .i64 0,.int .u64 0]))))) 103 [.int .i64 0,.int .u64 0] (nd (nd (nd (nd (nd 
 (lf 104 [.nilFunc]) 105 [.nilFunc] .nil) 106 [.nilFunc] (lf 107 [.nilFunc])) 108 [.nilFunc] (nd (lf 109 [.slice none 0 0]) 110 [.int .u8 0] (lf 111 [.nilFunc]))) 
 113 [.nilFunc] (nd (nd (lf 114 [.int .i64 0]) 116 [.nilFunc] (lf 117 [.int .u64 0])) 118 [.nilFunc] (nd (lf 119 [.nilFunc]) 120 [.nilFunc] (lf 121 [.nilFunc])))) 
 122 [.nilFunc] (nd (nd (nd (lf 123 [.nilFunc]) 124 [.nilFunc] (lf 125 [.nilFunc])) 126 [.nilFunc] (nd (lf 127 [.nilFunc]) 128 [.nilFunc] (lf 129 [.nilFunc]))) 130 
 [.nilFunc] (nd (nd (lf 131 [.nilFunc]) 132 [.nilFunc] (lf 133 [.nilFunc])) 134 [.nilFunc] (nd (lf 135 [.nilFunc]) 136 [.nilFunc] (lf 137 [.nilFunc]))))))) 138 [.nilFunc] 
 (nd (nd (nd (nd (nd (nd (nd (lf 139 [.nilFunc]) 140 [.nilFunc] .nil) 141 [.nilFunc] (lf 142 [.nilFunc])) 143 [.nilFunc] (nd (lf 144 [.nilFunc]) 145 [.nilFunc] (lf 
 146 [.nilFunc]))) 147 [.nilFunc] (nd (nd (lf 148 [.nilFunc]) 149 [.nilFunc] (lf 150 [.nilFunc])) 151 [.nilFunc] (nd (lf 152 [.nilFunc]) 153 [.nilFunc] (lf 154 [.int 
 .u8 0])))) 155 [.nilFunc] (nd (nd (nd (nd (lf 157 [.nilFunc]) 158 [.nilFunc] .nil) 159 [.nilFunc] (lf 160 [.nilFunc])) 161 [.nilFunc] (nd (lf 162 [.nilFunc]) 163 
 [.nilFunc] (lf 164 [.nilFunc]))) 165 [.nilFunc] (nd (nd (lf 166 [.nilFunc]) 167 [.nilFunc] (lf 169 [.nilFunc])) 171 [.nilFunc] (nd (lf 172 [.nilFunc]) 174 [.nilFunc] 
 (lf 175 [.int .u32 0]))))) 176 [.nilFunc] (nd (nd (nd (nd (nd (lf 177 [.nilFunc]) 178 [.nilFunc] .nil) 179 [.nilFunc] (lf 180 [.nilFunc])) 181 [.nilFunc] (nd (lf 
 182 [.nilFunc]) 183 [.nilFunc] (lf 184 [.slice none 0 0]))) 185 [.nilFunc] (nd (nd (lf 186 [.nilFunc]) 187 [.slice none 0 0] (lf 188 [.nilFunc])) 189 [.nilFunc] 
 (nd (lf 190 [.slice none 0 0]) 191 [.nilFunc] (lf 192 [.nilFunc])))) 193 [.int .u8 0] (nd (nd (nd (lf 195 [.nilFunc]) 196 [.nilFunc] (lf 197 [.nilFunc])) 198 [.nilFunc] 
 (nd (lf 199 [.nilFunc]) 200 [.pointer none] (lf 201 [.slice none 0 0]))) 202 [.nilFunc] (nd (nd (lf 203 [.nilFunc]) 204 [.nilFunc] (lf 205 [.nilFunc])) 206 [.nilFunc] 
 (nd (lf 207 [.nilFunc]) 209 [.nilFunc] (lf 210 [.nilFunc])))))) 211 [.nilFunc] (nd (nd (nd (nd (nd (nd (lf 212 [.nilFunc]) 214 [.nilFunc] .nil) 215 [.nilFunc] (lf 
 216 [.nilFunc])) 217 [.nilFunc] (nd (lf 218 [.int .u64 0,.int .u8 0,.bool false,.int .u64 0,.int .i64 0]) 219 [.int .u64 0,.int .u8 0,.bool false,.int .u64 
 0,.int .i64 0] (lf 220 [.nilFunc]))) 221 [.nilFunc] (nd (nd (lf 222 [.nilFunc]) 223 [.nilFunc] (lf 224 [.nilFunc])) 225 [.nilFunc] (nd (lf 226 [.int .u64 0,.int 
 .u64 0]) 227 [.int .u64 0,.int .u64 0] (lf 228 [.nilFunc])))) 229 [.nilFunc] (nd (nd (nd (nd (lf 230 [.int .i64 0]) 232 [.nilFunc] .nil) 233 [.nilFunc] (lf 234 
 [.nilFunc])) 235 [.nilFunc] (nd (lf 236 [.nilFunc]) 237 [.nilFunc] (lf 238 [.nilFunc]))) 239 [.nilFunc] (nd (nd (lf 240 [.nilFunc]) 242 [.nilFunc] (lf 244 [.nilFunc])) 
 245 [.bool false,.int .u64 0,.int .u64 0,.int .i64 0,.bool false] (nd (lf 246 [.bool false,.int .u64 0,.int .u64 0,.int .i64 0,.bool false]) 247 [.nilFunc] 
 (lf 249 [.nilFunc]))))) 250 [.int .u64 0] (nd (nd (nd (nd (nd (lf 251 [.nilFunc]) 252 [.nilFunc] .nil) 253 [.nilFunc] (lf 254 [.pointer none])) 255 [.nilFunc] (nd 
 (lf 256 [.nilFunc]) 257 [.nilFunc] (lf 258 [.nilFunc]))) 259 [.pointer none] (nd (nd (lf 261 [.nilFunc]) 262 [.nilFunc] (lf 263 [.nilFunc])) 264 [.pointer none,
 .pointer none,.pointer none,.string ByteArray.empty] (nd (lf 265 [.pointer none,.pointer none,.pointer none,.string ByteArray.empty]) 266 [] (lf 267 [])))) 
 268 [] (nd (nd (nd (lf 269 [.int .u8 0]) 270 [.int .u8 0] (lf 271 [.nilFunc])) 272 [.pointer none] (nd (lf 273 [.int .i32 0]) 274 [.int .i32 0] (lf 275 [.int .u64 
 0,.int .u64 0,.int .u32 0,.int .u8 0,.int .u8 0,.int .u8 0,.int .u8 0,.nilFunc,.pointer none,.int .i32 0,.int .i32 0]))) 276 [.int .u64 0,.int .u64 0,
 .int .u32 0,.int .u8 0,.int .u8 0,.int .u8 0,.int .u8 0,.nilFunc,.pointer none,.int .i32 0,.int .i32 0] (nd (nd (lf 277 [.int .u8 0]) 278 [.int .u8 0,.int 
 .u8 0,.int .i64 0,.int .i64 0,.int .i64 0,.int .i64 0,.int .i64 0,.bool false,.int .i32 0,.int .u64 0] (lf 279 [.int .u8 0,.int .u8 0,.int .i64 0,.int 
 .i64 0,.int .i64 0,.int .i64 0,.int .i64 0,.bool false,.int .i32 0,.int .u64 0])) 280 [.int .u8 0] (nd (lf 281 [.int .u8 0,.int .i64 0,.int .i64 0,.int 
 .i64 0,.int .i64 0,.int .i64 0,.int .i64 0,.int .i32 0,.int .i32 0,.slice none 0 0,.slice none 0 0]) 282 [.int .u8 0,.int .i64 0,.int .i64 0,.int .i64 
 0,.int .i64 0,.int .i64 0,.int .i64 0,.int .i32 0,.int .i32 0,.slice none 0 0,.slice none 0 0] (lf 283 [.pointer none])))))))) 
def zsB:Bt (List (Option (Nat×Nat))):=(nd (nd (nd (nd (lf 22 [some (52,9)]) 23 [some (279,10)] (lf 24 [some (282,11)])) 25 [some (3,1)] (nd (lf 26 [none,some (52,9),some (279,10),some (282,
 11),some (3,1),some (3,1),none]) 27 [none,some (52,9),some (279,10),some (282,11),some (3,1),some (3,1),none] (lf 30 [some (64,19)]))) 31 [none,
 none,none,none,some (64,19)] (nd (nd (lf 32 [none,none,none,none,some (64,19)]) 33 [some (45,1)] (lf 34 [some (4,1)])) 37 [some (50,8)] (nd (lf 38 [some 
 (175,1)]) 39 [some (175,1)] (lf 40 [none,some (175,1),some (175,1)])))) 41 [none,some (175,1),some (175,1)] (nd (nd (nd (lf 49 [none,none,none,none,
 none,some (175,1),some (175,1),none]) 50 [none,none,none,none,none,some (175,1),some (175,1),none] (lf 60 [some (103,2)])) 61 [none,none,some (103,
 2),none] (nd (lf 62 [none,none,some (103,2),none]) 63 [none,none,none,none,none,none,none,none,none,none,none,none,none,none,none,none,none,
 some (103,2),none] (lf 64 [none,none,none,none,none,none,none,none,none,none,none,none,none,none,none,none,none,some (103,2),none]))) 70 [some 
 (48,4)] (nd (nd (lf 109 [some (32,5)]) 184 [some (29,3)] (lf 187 [some (59,3)])) 190 [some (62,4)] (nd (lf 201 [some (200,1)]) 281 [none,none,none,none,
 none,none,none,none,none,some (3,1),some (3,1)] (lf 282 [none,none,none,none,none,none,none,none,none,some (3,1),some (3,1)]))))) 
def qG8:Bt (List Nat):=(nd (nd (nd (nd (nd (nd (nd (lf 11 [0,1,2,3,4,5,8,9,10,11,12,13,15,17,18,20,21,24,34,45,57,78,104]) 14 [0,2,3,4,5,6,9,10] .nil) 16 [0,
 1,2,3,4] (lf 17 [0,1,2])) 18 [0,1,2,3,4,5,14,16,29] (nd (nd (lf 26 [0,2,4]) 30 [0,1,4,5,6,7,13,18,22] .nil) 38 [0,1,2,3,21] (lf 39 [0,
 1,2,3,5,7,23,24,25,26,43]))) 42 [0,1,2,3,4,5,6,10] (nd (nd (nd (lf 43 [0,1,2,3,4,5,6,7,8,9,10,35,49]) 44 [0,1,2,3,4] .nil) 45 [0,
 1,2,3,4,5,6,7,8,9,10,14,56] (lf 46 [0,1,2,3,4])) 47 [0,1,2,3,5,8,17,18,19,20] (nd (nd (lf 48 [0,1,2]) 50 [0,1,2,3,6] .nil) 51 [0,1,
 2,4,5,6,23,43] (lf 52 [0,1,2,3,4])))) 53 [0,1,2,3,4,5,9] (nd (nd (nd (nd (lf 54 [0,1,2,4,5,6,7,8,10,13,34,35,36,37,43]) 55 [0,1,2,
 4,12] .nil) 56 [0,1,2,4,5,6,7,9,11,23,35,36,37,38] (lf 57 [0,1,2,4])) 61 [0,2,4,5,12,19,22,29] (nd (nd (lf 62 [0,2,3,5,6,14,15,21]) 
 63 [0,1,2,6,7,8,10,17] .nil) 65 [0,1,2,6,7,8,11,21] (lf 66 [0,1,2]))) 67 [0,1,4,5,6,7,8,9,10,17,18,19,20,24,25,26,27] (nd (nd (nd 
 (lf 68 [0,1,4,5,6,7,15,26,29]) 78 [0,2] .nil) 80 [0,2] (lf 81 [0,2])) 82 [0,2] (nd (lf 83 [0,2,3,9]) 91 [0,2,3,5,7,8,9,10,28,31] (lf 95 [0,
 1,4]))))) 104 [0,1,2,3,5,8,11,12,13,14] (nd (nd (nd (nd (nd (lf 105 [0]) 106 [0,2] .nil) 107 [0,2,3] (lf 110 [0,2])) 111 [0] (nd (nd (lf 112 [0,2]) 
 113 [0,1,2,6] .nil) 114 [0,1,2,6,7] (lf 115 [0,1,2,6,7,8,9,10,18,35,65]))) 116 [0,1,2,5,6,10] (nd (nd (nd (lf 117 [0,1,2,9,13,29]) 118 
 [0,1,4,5,6,7,12,13,14] .nil) 119 [0,1,4,5,6,7,8,9,13,15,16,17] (lf 120 [0,1,2])) 121 [0,1,2,6,7] (nd (lf 122 [0,2,4]) 123 [0,1,2,3,
 6,7,9] (lf 124 [0,1,2,3,4,5,8,9,10])))) 125 [0,2,4] (nd (nd (nd (nd (lf 126 [0,1,4]) 127 [0,2] .nil) 128 [0,1,2,4,26,30,31,32,33,40] (lf 
 129 [0,1,4,5,6])) 130 [0,1,4,5,19] (nd (nd (lf 131 [0,1,4,5,6]) 132 [0,1,2,3,4,5] .nil) 133 [0,2,4] (lf 134 [0,1]))) 135 [0,1,2,3,4,5] (nd 
 (nd (nd (lf 136 [0,1,4]) 137 [0,1,2,3,4] .nil) 138 [0,1,4,5,6,11,12,13,16,19] (lf 139 [0,1,3,4])) 140 [0,2,3] (nd (lf 142 [0,2,3,4]) 143 [0,
 1,4,5,6,7,8,10,15,18,32,33,34,35] (lf 145 [0,2,3,8])))))) 146 [0,1,4,6,16] (nd (nd (nd (nd (nd (nd (lf 147 [0,1,4,5,6,7,8,9,10,11,12,
 13,18,22,29,72]) 148 [0,2,14] .nil) 149 [0,1,4,8] (lf 157 [0,2,3])) 161 [0] (nd (nd (lf 162 [0,2]) 168 [0] .nil) 169 [0] (lf 171 [0,1,4]))) 172 [0,
 1,2] (nd (nd (nd (lf 173 [0,1,4,5,7,8,9,10,11]) 174 [0,1,2,6,7,8,9,14,19,38,43,48,65,77,82,105] .nil) 175 [0,1,4,5,6,7,12,19,29] 
 (lf 176 [0,1,2])) 177 [0,1,4] (nd (lf 178 [0,1,2]) 179 [0,1,2,6,7,8,9,10,20,25,37] (lf 180 [0,1,4,5,7,10,15,16,17,18,22,27])))) 181 [0,
 1,4] (nd (nd (nd (nd (lf 182 [0,1,4]) 183 [0,1,2,5,7] .nil) 184 [0,1,2,6,7,8,9,13,30,35,54] (lf 185 [0,1,2,3,4,10,11,12,13,14,15,16,
 17,18,19,20,25,32,39,56,75,80,97,125])) 186 [0,2] (nd (nd (lf 187 [0,2]) 188 [0,1,3,4,5,7,8,9,16] .nil) 189 [0,2,4,8] (lf 190 [0,2,4]))) 
 191 [0,1,4,5,6,7] (nd (nd (nd (lf 192 [0,2]) 193 [0,1,2,6,7,8,9,13,14,15,23] .nil) 194 [0,1,4,5,6,7,8,9,10,11,12,13,14,15,64,71,73,
 74,75,79,110,114,115,116,120] (lf 195 [0,1,4,5,6,7,14,20,21,22])) 197 [0,1,2,6,7,8,18,24] (nd (lf 200 [0,1,4,5,7,8,9,16]) 201 [0,2,
 3,4] (lf 202 [0,1,2,3,4,6]))))) 203 [0] (nd (nd (nd (nd (nd (lf 204 [0,1]) 205 [0,2,3] .nil) 206 [0,1,2,3,4,6,7,8,9,10,11,33,48,52] (lf 207 
 [0,1,4,5,7,8,9,16])) 208 [0,1,2,3,4,6,10,11,12,13,18] (nd (nd (lf 209 [0,1,4,5,6]) 210 [0,1,2,3,8,9,14,34] .nil) 211 [0,1,2,3,4,
 10,11,12,13,14,15,16,17,18,19,20,21,22,23,24,28,33,50,58,80,85,103,110,140,151,171,185,199,213] (lf 212 [0,1,2,3,8,9,10,11,12,
 21,33]))) 213 [0,1,2,8,9,10,11,12,17,35,45] (nd (nd (nd (lf 214 [0,1,2,3,8,9,10,11,12,13,14,34,36,55,57,60]) 215 [0,1,2,8,9,15] .nil) 
 216 [0,1,2,3,8,9,10,11,12,16,36,41,45,65,69,84,104,109,124] (lf 217 [0,1,2,3,4,10,11,12,47,65,70])) 218 [0,1,2,3,4,10,11,12,13,
 47,66,71,120,139,144] (nd (lf 219 [0,2,4,8,14]) 220 [0,1,2] (lf 221 [0,1,2,4,6,14,17])))) 222 [0,1,2,4,5,6,8,22,26] (nd (nd (nd (nd (lf 
 223 [0,1,2,3,4,5,6,7,8]) 224 [0,1,2,3,4,5,6,7,8] .nil) 225 [0,1,2,5] (lf 226 [0,1,2,4,5,6,7,8,9,10,11,12,13,14,15,16,36,71,75,
 81,90,95,100])) 227 [0,1,4,5,6,7,8,9,10,11,12,13] (nd (nd (lf 228 [0,1,2,3,4,10,11,20,23]) 229 [0,1,2,3,4,10,11,18,40,58] .nil) 230 
 [0,2] (lf 231 [0,2]))) 232 [0,1,2,3,8] (nd (nd (nd (lf 233 [0,1,2,3,4,5,12]) 234 [0,1,3,8,18] .nil) 237 [0,1,2,3,4,5,10,11,19] (lf 238 [0,
 1,2,4,5,6,12])) 239 [0,1,2,3,10,13] (nd (lf 240 [0,1,2,3,4,10,11,22]) 241 [0,1,2,4] (lf 242 [0,1,2,4]))))))) 
def dmB:Bt (Nat):=(nd (nd (nd (nd (nd (nd (lf 11282 3) 11283 5 .nil) 16385 3 (nd (lf 18433 3) 18438 9 .nil)) 38918 92 (nd (nd (lf 43011 12) 43013 7 .nil) 44033 3 (nd (lf 44034 14) 
 44036 6 .nil))) 45057 3 (nd (nd (nd (lf 46083 3) 46084 23 .nil) 46090 7 (nd (lf 47105 3) 47106 15 .nil)) 48131 7 (nd (nd (lf 48135 9) 51204 8 .nil) 52229 9 (lf 53249 
 3)))) 54277 5 (nd (nd (nd (nd (lf 55311 5) 56324 4 .nil) 57353 4 (nd (lf 57355 5) 58369 13 .nil)) 93190 11 (nd (nd (lf 117765 20) 117766 16 .nil) 117767 12 (lf 117768 
 12))) 117769 12 (nd (nd (nd (lf 118789 4) 125955 4 .nil) 126979 4 (nd (lf 131073 20) 138241 11 .nil)) 183305 15 (nd (nd (lf 187394 4) 189457 13 .nil) 192516 5 (lf 
 195593 3))))) 198658 12 (nd (nd (nd (nd (nd (lf 198660 7) 198661 20 .nil) 210946 15 (nd (lf 215044 14) 215046 6977 .nil)) 216069 9 (nd (nd (lf 216075 6977) 216081 
 9 .nil) 216087 6977 (lf 216099 11))) 217098 7107 (nd (nd (nd (lf 218122 7107) 220163 6847 .nil) 221189 14 (nd (lf 221195 6977) 221200 10 .nil)) 221201 6977 (nd (nd 
 (lf 221206 10) 221207 6977 .nil) 222209 6847 (lf 222211 13)))) 222213 13 (nd (nd (nd (nd (lf 222216 6847) 223233 6847 .nil) 223235 13 (nd (lf 223237 13) 223240 6847 
 .nil)) 223242 6847 (nd (nd (lf 223245 13) 223247 13 .nil) 223250 6847 (lf 223253 6847))) 226312 14 (nd (nd (nd (lf 227338 25) 231427 7 .nil) 234499 19 (nd (lf 234501 
 13) 234502 7367 .nil)) 236545 7 (nd (nd (lf 236546 7) 236547 7 .nil) 244739 7367 (lf 245761 9)))))) 
def qoB:Bt (Func):=(nd (nd (nd (nd (nd (nd (nd (lf 11 Tryz.f11) 14 Tryz.f14 .nil) 16 Tryz.f16 (lf 17 Tryz.f17)) 18 Tryz.f18 (nd (nd (lf 26 Tryz.f26) 30 Tryz.f30 .nil) 38 Tryz.f38 (lf 
 39 Tryz.f39))) 42 Tryz.f42 (nd (nd (nd (lf 43 Tryz.f43) 44 Tryz.f44 .nil) 45 Tryz.f45 (lf 46 Tryz.f46)) 47 Tryz.f47 (nd (nd (lf 48 Tryz.f48) 50 Tryz.f50 .nil) 51 
 Tryz.f51 (lf 52 Tryz.f52)))) 53 Tryz.f53 (nd (nd (nd (nd (lf 54 Tryz.f54) 55 Tryz.f55 .nil) 56 Tryz.f56 (lf 57 Tryz.f57)) 61 Tryz.f61 (nd (nd (lf 62 Tryz.f62) 63 
 Tryz.f63 .nil) 65 Tryz.f65 (lf 66 Tryz.f66))) 67 Tryz.f67 (nd (nd (nd (lf 68 Tryz.f68) 78 Tryz.f78 .nil) 80 Tryz.f80 (lf 81 Tryz.f81)) 82 Tryz.f82 (nd (lf 83 Tryz.f83) 
 91 Tryz.f91 (lf 95 Tryz.f95))))) 104 Tryz.f104 (nd (nd (nd (nd (nd (lf 105 Tryz.f105) 106 Tryz.f106 .nil) 107 Tryz.f107 (lf 110 Tryz.f110)) 111 Tryz.f111 (nd (nd 
 (lf 112 Tryz.f112) 113 Tryz.f113 .nil) 114 Tryz.f114 (lf 115 Tryz.f115))) 116 Tryz.f116 (nd (nd (nd (lf 117 Tryz.f117) 118 Tryz.f118 .nil) 119 Tryz.f119 (lf 120 
 Tryz.f120)) 121 Tryz.f121 (nd (lf 122 Tryz.f122) 123 Tryz.f123 (lf 124 Tryz.f124)))) 125 Tryz.f125 (nd (nd (nd (nd (lf 126 Tryz.f126) 127 Tryz.f127 .nil) 128 Tryz.f128 
 (lf 129 Tryz.f129)) 130 Tryz.f130 (nd (nd (lf 131 Tryz.f131) 132 Tryz.f132 .nil) 133 Tryz.f133 (lf 134 Tryz.f134))) 135 Tryz.f135 (nd (nd (nd (lf 136 Tryz.f136) 
 137 Tryz.f137 .nil) 138 Tryz.f138 (lf 139 Tryz.f139)) 140 Tryz.f140 (nd (lf 142 Tryz.f142) 143 Tryz.f143 (lf 145 Tryz.f145)))))) 146 Tryz.f146 (nd (nd (nd (nd (nd 
 (nd (lf 147 Tryz.f147) 148 Tryz.f148 .nil) 149 Tryz.f149 (lf 157 Tryz.f157)) 161 Tryz.f161 (nd (nd (lf 162 Tryz.f162) 168 Tryz.f168 .nil) 169 Tryz.f169 (lf 171 Tryz.f171))) 
 172 Tryz.f172 (nd (nd (nd (lf 173 Tryz.f173) 174 Tryz.f174 .nil) 175 Tryz.f175 (lf 176 Tryz.f176)) 177 Tryz.f177 (nd (lf 178 Tryz.f178) 179 Tryz.f179 (lf 180 Tryz.f180)))) 
 181 Tryz.f181 (nd (nd (nd (nd (lf 182 Tryz.f182) 183 Tryz.f183 .nil) 184 Tryz.f184 (lf 185 Tryz.f185)) 186 Tryz.f186 (nd (nd (lf 187 Tryz.f187) 188 Tryz.f188 .nil) 
 189 Tryz.f189 (lf 190 Tryz.f190))) 191 Tryz.f191 (nd (nd (nd (lf 192 Tryz.f192) 193 Tryz.f193 .nil) 194 Tryz.f194 (lf 195 Tryz.f195)) 197 Tryz.f197 (nd (lf 200 Tryz.f200) 
 201 Tryz.f201 (lf 202 Tryz.f202))))) 203 Tryz.f203 (nd (nd (nd (nd (nd (lf 204 Tryz.f204) 205 Tryz.f205 .nil) 206 Tryz.f206 (lf 207 Tryz.f207)) 208 Tryz.f208 (nd 
 (nd (lf 209 Tryz.f209) 210 Tryz.f210 .nil) 211 Tryz.f211 (lf 212 Tryz.f212))) 213 Tryz.f213 (nd (nd (nd (lf 214 Tryz.f214) 215 Tryz.f215 .nil) 216 Tryz.f216 (lf 
 217 Tryz.f217)) 218 Tryz.f218 (nd (lf 219 Tryz.f219) 220 Tryz.f220 (lf 221 Tryz.f221)))) 222 Tryz.f222 (nd (nd (nd (nd (lf 223 Tryz.f223) 224 Tryz.f224 .nil) 225 
 Tryz.f225 (lf 226 Tryz.f226)) 227 Tryz.f227 (nd (nd (lf 228 Tryz.f228) 229 Tryz.f229 .nil) 230 Tryz.f230 (lf 231 Tryz.f231))) 232 Tryz.f232 (nd (nd (nd (lf 233 Tryz.f233) 
 234 Tryz.f234 .nil) 237 Tryz.f237 (lf 238 Tryz.f238)) 239 Tryz.f239 (nd (lf 240 Tryz.f240) 241 Tryz.f241 (lf 242 Tryz.f242))))))) 
def mdB:Bt (Nat):=(nd (nd (nd (nd (lf 115 2) 116 2 .nil) 117 4 (nd (lf 123 2) 124 2 .nil)) 132 1 (nd (nd (lf 134 3) 136 5 .nil) 139 3 (nd (lf 175 4) 183 2 .nil))) 184 3 (nd (nd (nd 
 (lf 185 3) 188 3 .nil) 193 2 (nd (lf 194 3) 200 3 .nil)) 207 3 (nd (nd (lf 210 3) 211 3 .nil) 228 3 (lf 239 3)))) 
def qFj:Bt (Unit):=(nd (nd (nd (nd (nd (nd (nd (nd (lf 0 ()) 1 () .nil) 2 () (lf 3 ())) 4 () (nd (lf 5 ()) 6 () (lf 7 ()))) 8 () (nd (nd (nd (lf 9 ()) 10 () .nil) 11 () (lf 12 ())) 
 13 () (nd (lf 14 ()) 15 () (lf 16 ())))) 17 () (nd (nd (nd (nd (lf 18 ()) 19 () .nil) 20 () (lf 21 ())) 22 () (nd (lf 23 ()) 24 () (lf 25 ()))) 26 () (nd (nd (nd 
 (lf 27 ()) 28 () .nil) 29 () (lf 30 ())) 31 () (nd (lf 32 ()) 33 () (lf 34 ()))))) 35 () (nd (nd (nd (nd (nd (lf 36 ()) 37 () .nil) 38 () (lf 39 ())) 40 () (nd (lf 
 41 ()) 42 () (lf 43 ()))) 44 () (nd (nd (nd (lf 45 ()) 46 () .nil) 47 () (lf 48 ())) 49 () (nd (lf 50 ()) 51 () (lf 52 ())))) 53 () (nd (nd (nd (nd (lf 54 ()) 55 
 () .nil) 56 () (lf 57 ())) 58 () (nd (lf 59 ()) 60 () (lf 61 ()))) 62 () (nd (nd (nd (lf 63 ()) 64 () .nil) 65 () (lf 66 ())) 67 () (nd (lf 68 ()) 69 () (lf 70 ())))))) 
 71 () (nd (nd (nd (nd (nd (nd (lf 72 ()) 73 () .nil) 74 () (lf 75 ())) 76 () (nd (lf 77 ()) 78 () (lf 79 ()))) 80 () (nd (nd (nd (lf 81 ()) 82 () .nil) 83 () (lf 
 84 ())) 85 () (nd (lf 86 ()) 87 () (lf 88 ())))) 89 () (nd (nd (nd (nd (lf 90 ()) 91 () .nil) 92 () (lf 93 ())) 94 () (nd (lf 95 ()) 96 () (lf 97 ()))) 98 () (nd 
 (nd (nd (lf 99 ()) 100 () .nil) 101 () (lf 102 ())) 103 () (nd (lf 104 ()) 105 () (lf 106 ()))))) 107 () (nd (nd (nd (nd (nd (lf 108 ()) 109 () .nil) 110 () (lf 
 111 ())) 112 () (nd (lf 113 ()) 114 () (lf 115 ()))) 116 () (nd (nd (nd (lf 117 ()) 118 () .nil) 119 () (lf 120 ())) 121 () (nd (lf 122 ()) 123 () (lf 124 ())))) 
 125 () (nd (nd (nd (nd (lf 126 ()) 127 () .nil) 128 () (lf 129 ())) 130 () (nd (lf 131 ()) 132 () (lf 133 ()))) 134 () (nd (nd (lf 135 ()) 136 () (lf 137 ())) 138 
 () (nd (lf 139 ()) 140 () (lf 141 ()))))))) 142 () (nd (nd (nd (nd (nd (nd (nd (lf 143 ()) 144 () .nil) 145 () (lf 146 ())) 147 () (nd (lf 148 ()) 149 () (lf 150 
 ()))) 151 () (nd (nd (nd (lf 152 ()) 153 () .nil) 154 () (lf 155 ())) 156 () (nd (lf 157 ()) 158 () (lf 159 ())))) 160 () (nd (nd (nd (nd (lf 161 ()) 162 () .nil) 
 163 () (lf 164 ())) 165 () (nd (lf 166 ()) 167 () (lf 168 ()))) 169 () (nd (nd (nd (lf 170 ()) 171 () .nil) 172 () (lf 173 ())) 174 () (nd (lf 175 ()) 176 () (lf 
 177 ()))))) 178 () (nd (nd (nd (nd (nd (lf 179 ()) 180 () .nil) 181 () (lf 182 ())) 183 () (nd (lf 184 ()) 185 () (lf 186 ()))) 187 () (nd (nd (nd (lf 188 ()) 189 
 () .nil) 190 () (lf 191 ())) 192 () (nd (lf 193 ()) 194 () (lf 195 ())))) 196 () (nd (nd (nd (nd (lf 197 ()) 198 () .nil) 199 () (lf 200 ())) 201 () (nd (lf 202 
 ()) 203 () (lf 204 ()))) 205 () (nd (nd (lf 206 ()) 207 () (lf 208 ())) 209 () (nd (lf 210 ()) 211 () (lf 212 ())))))) 213 () (nd (nd (nd (nd (nd (nd (lf 214 ()) 
 215 () .nil) 216 () (lf 217 ())) 218 () (nd (lf 219 ()) 220 () (lf 221 ()))) 222 () (nd (nd (nd (lf 223 ()) 224 () .nil) 225 () (lf 226 ())) 227 () (nd (lf 228 ()) 
 229 () (lf 230 ())))) 231 () (nd (nd (nd (nd (lf 232 ()) 233 () .nil) 234 () (lf 235 ())) 236 () (nd (lf 237 ()) 238 () (lf 239 ()))) 240 () (nd (nd (nd (lf 241 
 ()) 242 () .nil) 243 () (lf 244 ())) 245 () (nd (lf 246 ()) 247 () (lf 248 ()))))) 249 () (nd (nd (nd (nd (nd (lf 250 ()) 251 () .nil) 252 () (lf 253 ())) 254 () 
 (nd (lf 255 ()) 256 () (lf 257 ()))) 258 () (nd (nd (nd (lf 259 ()) 260 () .nil) 261 () (lf 262 ())) 263 () (nd (lf 264 ()) 265 () (lf 266 ())))) 267 () (nd (nd 
 (nd (nd (lf 268 ()) 269 () .nil) 270 () (lf 271 ())) 272 () (nd (lf 273 ()) 274 () (lf 275 ()))) 276 () (nd (nd (lf 277 ()) 278 () (lf 279 ())) 280 () (nd (lf 281 
 ()) 282 () (lf 283 ())))))))) 
def goB:Bt (Unit):=(nd (nd (nd (nd (nd (nd (nd (lf 11 ()) 14 () .nil) 16 () (lf 17 ())) 18 () (nd (nd (lf 26 ()) 30 () .nil) 38 () (lf 39 ()))) 42 () (nd (nd (nd (lf 43 ()) 44 () .nil) 
 45 () (lf 46 ())) 47 () (nd (nd (lf 48 ()) 50 () .nil) 51 () (lf 52 ())))) 53 () (nd (nd (nd (nd (lf 54 ()) 55 () .nil) 56 () (lf 57 ())) 61 () (nd (nd (lf 62 ()) 
 63 () .nil) 65 () (lf 66 ()))) 67 () (nd (nd (nd (lf 68 ()) 78 () .nil) 80 () (lf 81 ())) 82 () (nd (lf 83 ()) 91 () (lf 95 ()))))) 104 () (nd (nd (nd (nd (nd (lf 
 105 ()) 106 () .nil) 107 () (lf 110 ())) 111 () (nd (nd (lf 112 ()) 113 () .nil) 114 () (lf 115 ()))) 116 () (nd (nd (nd (lf 117 ()) 118 () .nil) 119 () (lf 120 
 ())) 121 () (nd (lf 122 ()) 123 () (lf 124 ())))) 125 () (nd (nd (nd (nd (lf 126 ()) 127 () .nil) 128 () (lf 129 ())) 130 () (nd (nd (lf 131 ()) 132 () .nil) 133 
 () (lf 134 ()))) 135 () (nd (nd (nd (lf 136 ()) 137 () .nil) 138 () (lf 139 ())) 140 () (nd (lf 142 ()) 143 () (lf 145 ())))))) 146 () (nd (nd (nd (nd (nd (nd (lf 
 147 ()) 148 () .nil) 149 () (lf 157 ())) 161 () (nd (nd (lf 162 ()) 168 () .nil) 169 () (lf 171 ()))) 172 () (nd (nd (nd (lf 173 ()) 174 () .nil) 175 () (lf 176 
 ())) 177 () (nd (lf 178 ()) 179 () (lf 180 ())))) 181 () (nd (nd (nd (nd (lf 182 ()) 183 () .nil) 184 () (lf 185 ())) 186 () (nd (nd (lf 187 ()) 188 () .nil) 189 
 () (lf 190 ()))) 191 () (nd (nd (nd (lf 192 ()) 193 () .nil) 194 () (lf 195 ())) 197 () (nd (lf 200 ()) 201 () (lf 202 ()))))) 203 () (nd (nd (nd (nd (nd (lf 204 
 ()) 205 () .nil) 206 () (lf 207 ())) 208 () (nd (nd (lf 209 ()) 210 () .nil) 211 () (lf 212 ()))) 213 () (nd (nd (nd (lf 214 ()) 215 () .nil) 216 () (lf 217 ())) 
 218 () (nd (lf 219 ()) 220 () (lf 221 ())))) 222 () (nd (nd (nd (nd (lf 223 ()) 224 () .nil) 225 () (lf 226 ())) 227 () (nd (nd (lf 228 ()) 229 () .nil) 230 () (lf 
 231 ()))) 232 () (nd (nd (nd (lf 233 ()) 234 () .nil) 237 () (lf 238 ())) 239 () (nd (lf 240 ()) 241 () (lf 242 ()))))))) 
def jnB:Bt (Unit):=(nd (nd (lf 4 ()) 5 () (lf 6 ())) 8 () (nd (lf 10 ()) 11 () (lf 226 ()))) 
def ozB:Bt (Unit):=(nd (lf 54 ()) 147 () (lf 194 ())) 
def bzB:Bt (Unit):=(nd (nd (nd (lf 42 ()) 45 () .nil) 47 () (lf 51 ())) 53 () (nd (lf 54 ()) 70 () (lf 81 ()))) 
def fbB:Bt (Unit):=.nil 
def nzB:Bt (Nat):=(lf 24 14) 
def lvB:Bt (List Nat):=(nd (nd (nd (nd (nd (lf 11 [2,3,4,5,9,10,12,13,15,17,30,31,32,33,48,49,54,55,56,60,111,112,113,114,115,118,119,120,121,122,125,126,
 127,128,129,130,133,134,135,136,140,141,142,143,144,145,146,147,148,149,150,151,152,153]) 39 [1,3,23,24,25,34,35,36,39,40,41,42,
 51,52,53,56,57,58,61,62,63,64] .nil) 47 [2,3,17,18,19] (nd (lf 54 [2,4,7,8,34,35,36]) 56 [5,7,9,35,36,37] .nil)) 67 [1,5,6,7,8,17,18,
 19,24,25,26] (nd (nd (lf 68 [0,1,5]) 91 [2,3,7,8,9] .nil) 104 [1,3,11,12,13] (lf 115 [0,1,2,7,15,16,17,40,41,42,43,44,45,46,47,48,49,
 50,51,52,53,70,71,72,73,74,75,76,77,78]))) 118 [0,1,5,6,12,13] (nd (nd (nd (lf 119 [0,1,6,7,15,16]) 128 [1,2,30,31,32] .nil) 143 [1,7,
 8,32,33,34] (nd (lf 146 [0,1]) 147 [9,10,11,12,13] .nil)) 148 [0,7,8,9,10,11,12,13] (nd (nd (lf 173 [0,5,8,9,10]) 175 [0,1,5,6] .nil) 180 [1,
 5,15,16,17] (lf 184 [0,1,2,6,7,8])))) 185 [0,1,2,3,4,10,11,70,73,74,84,85,86,87,88,89,90,91,92,93,94,95,96] (nd (nd (nd (nd (lf 188 
 [0,3,7,8]) 193 [0,1,7,13,14] .nil) 194 [0,1,5,7,8,9,10,11,14,46,47,48,49,50,51,52,53,54,55,56,57,58,59,60,61,62,63,73,74,114,
 115] (nd (lf 195 [1,5,6,20,21]) 200 [0,1,7,8] .nil)) 207 [0,1,7,8] (nd (nd (lf 210 [0,1,2,3,8,9,22,23,24,25,26,27,28,29,30,31,32,33]) 
 211 [0,1,2,3,4,10,11,13,14,15,17,18,19,20,21,22,182,183,184,196,197,198,210,211,212] .nil) 212 [0,3,8,9,10,11,12] (lf 213 [0,1,8,
 9,10,11]))) 215 [0,8,9] (nd (nd (nd (lf 216 [0,1,2,3,9,10,11,12,23,24,25,26,27,28,29,30,31,32,33,34,35]) 217 [0,1,4,11,12,35,36,37,
 38,39,40,41,42,43,44,45,46,54,55,56,57,58,59,60,61,62,63,64] .nil) 218 [0,1,4,12,13,36,37,38,39,40,41,42,43,44,45,46,54,55,56,
 57,58,59,60,61,62,63,64,65,109,110,111,112,113,114,115,116,117,118,119,127,128,129,130,131,132,133,134,135,136,137,138] (nd (lf 221 
 [1,2,4]) 222 [1,2,4,6,13,14,15,46,47,48,49,50,51] .nil)) 226 [1,2,6,7,8,9,10,13,14,15,89] (nd (nd (lf 228 [0,2,4,10,11]) 229 [0,2,3,
 4,10,24,25,26,27,28,29,30,31,32,33,34,35,36,37,38,39] .nil) 234 [0,1,3] (lf 239 [0,1,2,3,10]))))) 
def rjB:Bt (List Nat):=(nd (nd (lf 11268 [2,3,4,5,9,34]) 11273 [8] (lf 11274 [2,3,4,5,9,10,12,57])) 11275 [8] (nd (lf 11286 [5,9,12,21]) 11287 [8] .nil)) 
def bts:Bts:=⟨tyB,kdB,foB,elB,zeB,zsB,qFj,fun _=>none,qG8,dmB,mdB,qoB,goB,jnB,ozB,bzB,fbB,nzB,lvB,rjB,([(235,0),(236,1)]:List (Nat×Nat))⟩
theorem k_ty:tyB.mp (fun k _=>Ty Tryz.prog k)=tyB.mp fun _ v=>some v:=by kernel_rfl
theorem k_kd:kdB.mp (fun k v=>qrD Tryz.prog k v)=kdB.mp fun _ v=>some v:=by kernel_rfl
theorem k_fo:foB.mp (fun k _=>Fo Tryz.prog (k / 64) (k % 64))=foB.mp fun _ v=>some v:=by kernel_rfl
theorem k_al:foB.mp (fun k _=>qk3 Tryz.prog (k / 64))=foB.mp fun _ _=>true:=by kernel_rfl
theorem k_el:elB.mp (fun k _=>El Tryz.prog k)=elB.mp fun _ v=>some v:=by kernel_rfl
theorem k_ze:zeB.mp (fun k _=>Ze Tryz.prog k)=zeB.mp fun _ v=>some v:=by kernel_rfl
theorem k_zc:zeB.mp (fun _ v=>v.all qdg)=zeB.mp fun _ _=>true:=by kernel_rfl
theorem qG9:qFj.mp (fun k _=>Nat.ble (Tryz.prog.bytesOf k) 256)=qFj.mp fun _ _=>true:=by kernel_rfl
theorem qHa:qoB.mp (fun k _=>Tryz.prog.funcs[k]?)=qoB.mp fun _ v=>some v:=by kernel_rfl
theorem k_gf:qoB.mp (fun k _=>(goB.get k).isSome)=qoB.mp fun _ _=>true:=by kernel_rfl
theorem k_go:goB.mp (fun k _=>qk1 Tryz.prog k)=goB.mp fun _ _=>true:=by kernel_rfl
theorem k_mo:Tryz.prog.follows .mixedOrders=true:=by kernel_rfl
theorem k_ex:∀p∈([(235,0),(236,1)]:List (Nat×Nat)),qf9 Tryz.prog p.1 p.2:=(qpx ⟨Tryz.f235,by kernel_rfl,by kernel_rfl,by kernel_rfl,by kernel_rfl,by kernel_rfl⟩ (qpx ⟨Tryz.f236,by kernel_rfl,by kernel_rfl,by kernel_rfl,by kernel_rfl,by kernel_rfl⟩ qDI))
theorem Jv:BtsOK Tryz.prog bts:=⟨k_ty,k_kd,k_fo,k_al,k_el,k_ze,k_zc,qG9,qHa,k_gf,k_go,k_mo,k_ex⟩
theorem qy:qoB.mp (fun f fn=>match fn.body with | some c=>okC fn.ntmps bts.tbl f c | none=>true)=qoB.mp fun _ _=>true:=by kernel_rfl
noncomputable abbrev tb:Tbl:=bts.tbl
end
end Su
