/-
  An evaluator, proved sound. No condition.
-/
import Derived.Test.YtldhknmacepeiaaGreatDoorProg
import Derived.Test.YtldhknmacepeiaaGreatDoorSuSd
import Derived.KernelRfl
set_option linter.unusedVariables false
set_option linter.unusedSimpArgs false
namespace Su
noncomputable section
open Go Go.Proofs Fly
set_option maxRecDepth 100000
abbrev nd{α:Type}(l:Bt α)(k:Nat)(v:α)(r:Bt α):Bt α:=.node l k v r
abbrev lf{α:Type}(k:Nat)(v:α):Bt α:=.node .nil k v .nil
abbrev p1:Bool×Nat:=(false,1)
def tyB:Bt (Bool×Nat):=(nd (nd (nd (nd (nd (nd (nd (nd (lf 0 p1) 1 p1 .nil) 2 p1 (lf 3 p1)) 4 p1 (nd (nd (lf 5 p1) 6 p1 .nil) 7 (true,4) (lf 8 (true,4)))) 9 p1 (nd (nd (nd (lf 10 p1) 
 11 p1 .nil) 12 p1 (lf 13 (true,2))) 14 (true,2) (nd (lf 15 p1) 16 p1 (lf 17 p1)))) 18 (true,1) (nd (nd (nd (nd (lf 19 (true,1)) 20 p1 .nil) 21 p1 (lf 22 p1)) 
 23 p1 (nd (nd (lf 24 p1) 25 p1 .nil) 26 p1 (lf 27 p1))) 28 p1 (nd (nd (nd (lf 29 p1) 30 p1 .nil) 31 p1 (lf 32 p1)) 33 p1 (nd (lf 34 p1) 35 p1 (lf 36 p1))))) 37 p1 
 (nd (nd (nd (nd (nd (lf 38 p1) 39 p1 .nil) 40 p1 (lf 41 p1)) 42 p1 (nd (nd (lf 43 p1) 44 (true,3) .nil) 45 (true,3) (lf 46 p1))) 47 p1 (nd (nd (nd (lf 48 p1) 49 
 p1 .nil) 50 p1 (lf 51 p1)) 52 p1 (nd (lf 53 p1) 54 p1 (lf 55 p1)))) 56 p1 (nd (nd (nd (nd (lf 57 p1) 58 p1 .nil) 59 p1 (lf 60 p1)) 61 (true,5) (nd (lf 62 (true,
 5)) 63 p1 (lf 64 p1))) 65 (true,4) (nd (nd (nd (lf 66 (true,4)) 67 p1 .nil) 68 p1 (lf 69 p1)) 70 p1 (nd (lf 71 (true,2)) 72 (true,2) (lf 73 p1)))))) 74 p1 (nd 
 (nd (nd (nd (nd (nd (lf 75 p1) 76 p1 .nil) 77 (true,7) (lf 78 (true,7))) 79 (true,15) (nd (nd (lf 80 (true,15)) 81 p1 .nil) 82 p1 (lf 83 p1))) 84 p1 (nd (nd 
 (nd (lf 85 p1) 86 (true,2) .nil) 87 (true,2) (lf 88 p1)) 89 p1 (nd (lf 90 p1) 91 p1 (lf 92 p1)))) 93 (true,2) (nd (nd (nd (nd (lf 94 p1) 95 p1 .nil) 96 p1 (lf 
 97 p1)) 98 p1 (nd (lf 99 p1) 100 p1 (lf 101 p1))) 102 p1 (nd (nd (nd (lf 103 p1) 104 p1 .nil) 105 p1 (lf 106 p1)) 107 p1 (nd (lf 108 p1) 109 p1 (lf 110 p1))))) 111 
 p1 (nd (nd (nd (nd (nd (lf 112 p1) 113 p1 .nil) 114 p1 (lf 115 p1)) 116 p1 (nd (nd (lf 117 p1) 118 p1 .nil) 119 p1 (lf 120 p1))) 121 (true,20) (nd (nd (nd (lf 122 
 (true,20)) 123 p1 .nil) 124 p1 (lf 125 p1)) 126 p1 (nd (lf 127 p1) 128 p1 (lf 129 p1)))) 130 (true,2) (nd (nd (nd (nd (lf 131 (true,2)) 132 (true,3) .nil) 133 
 (true,3) (lf 134 p1)) 135 p1 (nd (lf 136 p1) 137 p1 (lf 138 p1))) 139 p1 (nd (nd (nd (lf 140 p1) 141 p1 .nil) 142 p1 (lf 143 p1)) 144 p1 (nd (lf 145 p1) 146 p1 
 (lf 147 p1))))))) 148 (true,2) (nd (nd (nd (nd (nd (nd (nd (lf 149 (true,2)) 150 (true,5) .nil) 151 (true,5) (lf 152 p1)) 153 p1 (nd (nd (lf 154 p1) 155 p1 .nil) 
 156 p1 (lf 157 p1))) 158 p1 (nd (nd (nd (lf 159 p1) 160 p1 .nil) 161 p1 (lf 162 p1)) 163 (true,2) (nd (lf 164 (true,2)) 165 p1 (lf 166 p1)))) 167 (true,256) (nd 
 (nd (nd (nd (lf 168 (true,256)) 169 p1 .nil) 170 p1 (lf 171 p1)) 172 p1 (nd (lf 173 p1) 174 p1 (lf 175 p1))) 176 p1 (nd (nd (nd (lf 177 p1) 178 p1 .nil) 179 p1 
 (lf 180 p1)) 181 p1 (nd (lf 182 p1) 183 p1 (lf 184 p1))))) 185 p1 (nd (nd (nd (nd (nd (lf 186 p1) 187 p1 .nil) 188 p1 (lf 189 p1)) 190 p1 (nd (nd (lf 191 p1) 192 
 p1 .nil) 193 p1 (lf 194 p1))) 195 p1 (nd (nd (nd (lf 196 p1) 197 p1 .nil) 198 p1 (lf 199 p1)) 200 p1 (nd (lf 201 p1) 202 p1 (lf 203 p1)))) 204 p1 (nd (nd (nd (nd 
 (lf 205 p1) 206 p1 .nil) 207 p1 (lf 208 p1)) 209 p1 (nd (lf 210 p1) 211 p1 (lf 212 p1))) 213 p1 (nd (nd (nd (lf 214 p1) 215 p1 .nil) 216 p1 (lf 217 p1)) 218 p1 (nd 
 (lf 219 p1) 220 p1 (lf 221 p1)))))) 222 (true,3) (nd (nd (nd (nd (nd (nd (lf 223 (true,3)) 224 p1 .nil) 225 (true,12) (lf 226 p1)) 227 p1 (nd (nd (lf 228 p1) 
 229 p1 .nil) 230 p1 (lf 231 p1))) 232 p1 (nd (nd (nd (lf 233 p1) 234 p1 .nil) 235 p1 (lf 236 p1)) 237 p1 (nd (lf 238 p1) 239 p1 (lf 240 p1)))) 241 (true,4) (nd 
 (nd (nd (nd (lf 242 (true,4)) 243 p1 .nil) 244 p1 (lf 245 (true,24))) 246 p1 (nd (lf 247 p1) 248 p1 (lf 249 p1))) 250 (true,256) (nd (nd (nd (lf 251 (true,2)) 
 252 (true,2) .nil) 253 (true,32) (lf 254 p1)) 255 p1 (nd (lf 256 p1) 257 p1 (lf 258 p1))))) 259 p1 (nd (nd (nd (nd (nd (lf 260 p1) 261 p1 .nil) 262 p1 (lf 263 
 p1)) 264 p1 (nd (nd (lf 265 p1) 266 (true,20) .nil) 267 (true,65) (lf 268 p1))) 269 (true,3) (nd (nd (nd (lf 270 (true,3)) 271 p1 .nil) 272 p1 (lf 273 p1)) 274 
 p1 (nd (lf 275 p1) 276 p1 (lf 277 p1)))) 278 (true,1) (nd (nd (nd (nd (lf 279 (true,1)) 280 p1 .nil) 281 p1 (lf 282 (true,32))) 283 (true,64) (nd (lf 284 (true,
 4)) 285 (true,4) (lf 286 (true,0)))) 287 (true,0) (nd (nd (nd (lf 288 (true,0)) 289 p1 .nil) 290 p1 (lf 291 p1)) 292 p1 (nd (lf 293 p1) 294 (true,11) (lf 295 
 (true,11))))))))) 
def kdB:Bt (Kd):=(nd (nd (nd (nd (nd (lf 2 (.int .i64)) 3 (.int .i64) .nil) 4 .bool (nd (lf 5 (.int .u8)) 6 (.int .u8) .nil)) 7 (.flat [.int .i64,.int .i64,.bool,.int .u8]) (nd 
 (nd (lf 8 (.flat [.int .i64,.int .i64,.bool,.int .u8])) 9 .str .nil) 10 .str (lf 11 .str))) 12 (.int .u64) (nd (nd (nd (lf 21 (.int .i32)) 22 (.int .u64) .nil) 
 23 (.int .u64) (lf 28 (.int .u64))) 29 (.int .u8) (nd (nd (lf 33 (.int .i64)) 49 (.int .u8) .nil) 52 (.int .u8) (lf 60 (.int .u8))))) 61 (.flat [.int .u8,.int .i64,
 .string,.int .i32,.int .u64]) (nd (nd (nd (nd (lf 62 (.flat [.int .u8,.int .i64,.string,.int .i32,.int .u64])) 74 (.int .u8) .nil) 76 (.int .u8) (nd (lf 93 
 (.arr 2 false 1)) 105 (.int .u32) .nil)) 120 (.int .u8) (nd (nd (lf 148 (.flat [.int .u64,.int .u64])) 149 (.flat [.int .u64,.int .u64]) .nil) 163 (.flat [.string,
 .int .i64]) (lf 164 (.flat [.string,.int .i64])))) 251 (.flat [.int .u8,.int .u8]) (nd (nd (nd (lf 252 (.flat [.int .u8,.int .u8])) 256 (.int .i64) .nil) 278 
 (.flat [.string]) (lf 279 (.flat [.string]))) 286 (.arr 0 false 1) (nd (nd (lf 289 (.int .u8)) 290 (.int .u8) .nil) 292 (.int .i32) (lf 293 (.int .i32)))))) 
def foB:Bt (Nat×Bool×Nat):=(nd (nd (nd (nd (nd (nd (nd (lf 448 (0,false,1)) 449 (1,false,1) .nil) 450 (2,false,1) (nd (lf 451 (3,false,1)) 512 (0,false,1) .nil)) 513 (1,false,1) 
 (nd (nd (lf 514 (2,false,1)) 515 (3,false,1) .nil) 832 (0,false,1) (lf 833 (1,false,1)))) 896 (0,false,1) (nd (nd (nd (lf 897 (1,false,1)) 1152 (0,false,
 1) .nil) 1216 (0,false,1) (nd (lf 2816 (0,false,1)) 2817 (1,false,1) .nil)) 2818 (2,false,1) (nd (nd (lf 2880 (0,false,1)) 2881 (1,false,1) .nil) 2882 
 (2,false,1) (lf 3904 (0,false,1))))) 3905 (1,false,1) (nd (nd (nd (nd (lf 3906 (2,false,1)) 3907 (3,false,1) .nil) 3908 (4,false,1) (nd (lf 3968 (0,
 false,1)) 3969 (1,false,1) .nil)) 3970 (2,false,1) (nd (nd (lf 3971 (3,false,1)) 3972 (4,false,1) .nil) 4160 (0,false,1) (lf 4161 (1,false,1)))) 4162 
 (2,false,1) (nd (nd (nd (lf 4163 (3,false,1)) 4224 (0,false,1) .nil) 4225 (1,false,1) (nd (lf 4226 (2,false,1)) 4227 (3,false,1) .nil)) 4544 (0,false,
 1) (nd (nd (lf 4545 (1,false,1)) 4608 (0,false,1) .nil) 4609 (1,false,1) (lf 4928 (0,false,1)))))) 4929 (1,false,1) (nd (nd (nd (nd (nd (lf 4930 (2,false,
 1)) 4931 (3,false,1) .nil) 4932 (4,false,1) (nd (lf 4933 (5,false,1)) 4934 (6,false,1) .nil)) 4992 (0,false,1) (nd (nd (lf 4993 (1,false,1)) 4994 (2,
 false,1) .nil) 4995 (3,false,1) (lf 4996 (4,false,1)))) 4997 (5,false,1) (nd (nd (nd (lf 4998 (6,false,1)) 5056 (0,false,1) .nil) 5057 (1,false,1) (nd 
 (lf 5058 (2,false,1)) 5059 (3,false,1) .nil)) 5060 (4,true,7) (nd (nd (lf 5061 (11,false,1)) 5062 (12,false,1) .nil) 5063 (13,false,1) (lf 5064 (14,
 false,1))))) 5120 (0,false,1) (nd (nd (nd (nd (lf 5121 (1,false,1)) 5122 (2,false,1) .nil) 5123 (3,false,1) (nd (lf 5124 (4,true,7)) 5125 (11,false,
 1) .nil)) 5126 (12,false,1) (nd (nd (lf 5127 (13,false,1)) 5128 (14,false,1) .nil) 5504 (0,false,1) (lf 5505 (1,false,1)))) 5568 (0,false,1) (nd (nd 
 (nd (lf 5569 (1,false,1)) 7744 (0,false,1) .nil) 7745 (1,false,1) (nd (lf 7746 (2,false,1)) 7747 (3,false,1) .nil)) 7748 (4,false,1) (nd (nd (lf 7749 
 (5,false,1)) 7750 (6,true,7) .nil) 7751 (13,true,7) (lf 7808 (0,false,1))))))) 7809 (1,false,1) (nd (nd (nd (nd (nd (nd (lf 7810 (2,false,1)) 7811 (3,
 false,1) .nil) 7812 (4,false,1) (nd (lf 7813 (5,false,1)) 7814 (6,true,7) .nil)) 7815 (13,true,7) (nd (nd (lf 8320 (0,false,1)) 8321 (1,false,1) .nil) 
 8384 (0,false,1) (lf 8385 (1,false,1)))) 8448 (0,true,2) (nd (nd (nd (lf 8449 (2,false,1)) 8512 (0,true,2) .nil) 8513 (2,false,1) (nd (lf 9472 (0,false,
 1)) 9473 (1,false,1) .nil)) 9536 (0,false,1) (nd (nd (lf 9537 (1,false,1)) 9600 (0,false,1) .nil) 9601 (1,true,2) (lf 9602 (3,false,1))))) 9603 (4,false,
 1) (nd (nd (nd (nd (lf 9664 (0,false,1)) 9665 (1,true,2) .nil) 9666 (3,false,1) (nd (lf 9667 (4,false,1)) 10432 (0,false,1) .nil)) 10433 (1,false,1) 
 (nd (nd (lf 10496 (0,false,1)) 10497 (1,false,1) .nil) 14208 (0,false,1) (lf 14209 (1,false,1)))) 14210 (2,false,1) (nd (nd (nd (lf 14272 (0,false,1)) 
 14273 (1,false,1) .nil) 14274 (2,false,1) (nd (lf 15424 (0,false,1)) 15425 (1,false,1) .nil)) 15426 (2,false,1) (nd (nd (lf 15427 (3,false,1)) 15488 
 (0,false,1) .nil) 15489 (1,false,1) (lf 15490 (2,false,1)))))) 15491 (3,false,1) (nd (nd (nd (nd (nd (lf 16064 (0,false,1)) 16065 (1,false,1) .nil) 16128 
 (0,false,1) (nd (lf 16129 (1,false,1)) 17216 (0,false,1) .nil)) 17217 (1,false,1) (nd (nd (lf 17218 (2,false,1)) 17280 (0,false,1) .nil) 17281 (1,false,
 1) (lf 17282 (2,false,1)))) 17792 (0,false,1) (nd (nd (nd (lf 17856 (0,false,1)) 18176 (0,false,1) .nil) 18177 (1,false,1) (nd (lf 18178 (2,false,1)) 
 18179 (3,false,1) .nil)) 18240 (0,false,1) (nd (nd (lf 18241 (1,false,1)) 18242 (2,false,1) .nil) 18243 (3,false,1) (lf 18816 (0,false,1))))) 18817 (1,
 false,1) (nd (nd (nd (nd (lf 18818 (2,false,1)) 18819 (3,false,1) .nil) 18820 (4,false,1) (nd (lf 18821 (5,false,1)) 18822 (6,false,1) .nil)) 18823 (7,
 false,1) (nd (nd (lf 18824 (8,false,1)) 18825 (9,false,1) .nil) 18826 (10,false,1) (lf 18880 (0,false,1)))) 18881 (1,false,1) (nd (nd (nd (lf 18882 (2,
 false,1)) 18883 (3,false,1) .nil) 18884 (4,false,1) (lf 18885 (5,false,1))) 18886 (6,false,1) (nd (nd (lf 18887 (7,false,1)) 18888 (8,false,1) .nil) 
 18889 (9,false,1) (lf 18890 (10,false,1)))))))) 
def elB:Bt (Nat×Nat):=(nd (nd (nd (lf 37 (105,1)) 38 (105,1) .nil) 55 (62,5) (nd (lf 63 (122,20)) 64 (80,15) .nil)) 68 (23,1) (nd (nd (lf 70 (9,1)) 75 (78,7) .nil) 129 (5,1) 
 (nd (lf 217 (4,1)) 237 (22,1) .nil))) 
def zeB:Bt (List Value):=(nd (nd (nd (nd (nd (nd (nd (nd (lf 1 [.nilFunc]) 2 [.int .i64 0] .nil) 3 [.int .i64 0] (lf 4 [.bool false])) 5 [.int .u8 0] (nd (lf 6 [.int .u8 0]) 7 [.int .i64 
 0,.int .i64 0,.bool false,.int .u8 0] (lf 8 [.int .i64 0,.int .i64 0,.bool false,.int .u8 0]))) 9 [.string ByteArray.empty] (nd (nd (lf 10 [.string ByteArray.empty]) 
 11 [.string ByteArray.empty] (lf 12 [.int .u64 0])) 13 [.string ByteArray.empty,.int .u64 0] (nd (lf 14 [.string ByteArray.empty,.int .u64 0]) 15 [.pointer none] 
 (lf 16 [.pointer none])))) 17 [.pointer none] (nd (nd (nd (lf 18 [.pointer none]) 19 [.pointer none] (lf 20 [.nilIface])) 21 [.int .i32 0] (nd (lf 22 [.int .u64 
 0]) 23 [.int .u64 0] (lf 24 [.nilFunc]))) 25 [.nilFunc] (nd (nd (lf 27 [.nilFunc]) 28 [.int .u64 0] (lf 29 [.int .u8 0])) 30 [.nilFunc] (nd (lf 31 [.nilFunc]) 32 
 [.nilFunc] (lf 33 [.int .i64 0]))))) 35 [.nilFunc] (nd (nd (nd (nd (nd (lf 36 [.nilFunc]) 37 [.slice none 0 0] .nil) 38 [.slice none 0 0] (lf 40 [.nilFunc])) 41 
 [.nilFunc] (nd (lf 42 [.nilFunc]) 43 [.nilFunc] (lf 44 [.bool false,.slice none 0 0,.slice none 0 0]))) 45 [.bool false,.slice none 0 0,.slice none 0 0] (nd 
 (nd (lf 47 [.nilFunc]) 48 [.nilFunc] (lf 49 [.int .u8 0])) 51 [.nilFunc] (nd (lf 52 [.int .u8 0]) 53 [.nilFunc] (lf 54 [.nilFunc])))) 55 [.slice none 0 0] (nd (nd 
 (nd (lf 57 [.nilFunc]) 58 [.nilFunc] (lf 59 [.nilFunc])) 60 [.int .u8 0] (nd (lf 61 [.int .u8 0,.int .i64 0,.string ByteArray.empty,.int .i32 0,.int .u64 0]) 
 62 [.int .u8 0,.int .i64 0,.string ByteArray.empty,.int .i32 0,.int .u64 0] (lf 63 [.slice none 0 0]))) 64 [.slice none 0 0] (nd (nd (lf 65 [.int .i64 0,.slice 
 none 0 0,.slice none 0 0,.slice none 0 0]) 66 [.int .i64 0,.slice none 0 0,.slice none 0 0,.slice none 0 0] (lf 67 [.nilFunc])) 68 [.slice none 0 0] (nd (lf 
 69 [.nilFunc]) 70 [.slice none 0 0] (lf 71 [.slice none 0 0,.slice none 0 0])))))) 72 [.slice none 0 0,.slice none 0 0] (nd (nd (nd (nd (nd (nd (lf 73 [.nilFunc]) 
 74 [.int .u8 0] .nil) 75 [.slice none 0 0] (lf 76 [.int .u8 0])) 77 [.int .u8 0,.int .i64 0,.bool false,.int .i32 0,.int .u64 0,.string ByteArray.empty,.slice 
 none 0 0] (nd (lf 78 [.int .u8 0,.int .i64 0,.bool false,.int .i32 0,.int .u64 0,.string ByteArray.empty,.slice none 0 0]) 79 [.int .u8 0,.int .i64 0,.string 
 ByteArray.empty,.slice none 0 0,.int .u8 0,.int .i64 0,.bool false,.int .i32 0,.int .u64 0,.string ByteArray.empty,.slice none 0 0,.int .i32 0,.int .i32 
 0,.slice none 0 0,.slice none 0 0] (lf 80 [.int .u8 0,.int .i64 0,.string ByteArray.empty,.slice none 0 0,.int .u8 0,.int .i64 0,.bool false,.int .i32 0,
 .int .u64 0,.string ByteArray.empty,.slice none 0 0,.int .i32 0,.int .i32 0,.slice none 0 0,.slice none 0 0]))) 81 [.nilFunc] (nd (nd (lf 82 [.nilFunc]) 83 
 [.nilFunc] (lf 84 [.nilFunc])) 85 [.nilFunc] (nd (lf 86 [.slice none 0 0,.slice none 0 0]) 87 [.slice none 0 0,.slice none 0 0] (lf 88 [.nilFunc])))) 89 [.nilFunc] 
 (nd (nd (nd (lf 90 [.nilFunc]) 91 [.nilFunc] (lf 92 [.nilFunc])) 93 [.slice none 0 0,.slice none 0 0] (nd (lf 94 [.nilFunc]) 95 [.nilFunc] (lf 96 [.nilFunc]))) 
 98 [.nilFunc] (nd (nd (lf 100 [.nilFunc]) 101 [.nilFunc] (lf 102 [.nilFunc])) 103 [.nilFunc] (nd (lf 104 [.nilFunc]) 105 [.int .u32 0] (lf 106 [.nilFunc]))))) 107 
 [.nilFunc] (nd (nd (nd (nd (nd (lf 108 [.nilFunc]) 110 [.nilFunc] .nil) 111 [.nilFunc] (lf 112 [.map none])) 113 [.nilFunc] (nd (lf 114 [.nilFunc]) 115 [.nilFunc] 
 (lf 116 [.nilFunc]))) 118 [.nilFunc] (nd (nd (lf 119 [.nilFunc]) 120 [.int .u8 0] (lf 121 [.int .i64 0,.bool false,.string ByteArray.empty,.int .u8 0,.int .i64 
 0,.bool false,.int .u8 0,.int .i64 0,.bool false,.int .i32 0,.int .u64 0,.string ByteArray.empty,.slice none 0 0,.int .u8 0,.int .i64 0,.bool false,.int 
 .i32 0,.int .u64 0,.string ByteArray.empty,.slice none 0 0])) 122 [.int .i64 0,.bool false,.string ByteArray.empty,.int .u8 0,.int .i64 0,.bool false,.int 
 .u8 0,.int .i64 0,.bool false,.int .i32 0,.int .u64 0,.string ByteArray.empty,.slice none 0 0,.int .u8 0,.int .i64 0,.bool false,.int .i32 0,.int .u64 
 0,.string ByteArray.empty,.slice none 0 0] (nd (lf 123 [.nilFunc]) 124 [.nilFunc] (lf 125 [.nilFunc])))) 126 [.nilFunc] (nd (nd (nd (lf 127 [.pointer none]) 128 
 [.pointer none] (lf 129 [.slice none 0 0])) 130 [.pointer none,.slice none 0 0] (nd (lf 131 [.pointer none,.slice none 0 0]) 132 [.pointer none,.slice none 0 
 0,.int .i64 0] (lf 133 [.pointer none,.slice none 0 0,.int .i64 0]))) 134 [.nilFunc] (nd (nd (lf 135 [.nilFunc]) 136 [.nilFunc] (lf 137 [.nilFunc])) 138 [.nilFunc] 
 (nd (lf 139 [.nilFunc]) 140 [.nilFunc] (lf 141 [.nilFunc]))))))) 142 [.nilFunc] (nd (nd (nd (nd (nd (nd (nd (lf 143 [.nilFunc]) 145 [.nilFunc] .nil) 146 [.nilFunc] 
 (lf 147 [.nilFunc])) 148 [.int .u64 0,.int .u64 0] (nd (lf 149 [.int .u64 0,.int .u64 0]) 150 [.bool false,.int .u64 0,.int .u64 0,.int .i64 0,.bool false] 
 (lf 151 [.bool false,.int .u64 0,.int .u64 0,.int .i64 0,.bool false]))) 152 [.nilFunc] (nd (nd (lf 154 [.nilFunc]) 156 [.nilFunc] (lf 157 [.nilFunc])) 159 [.nilFunc] 
 (nd (lf 160 [.nilFunc]) 161 [.nilFunc] (lf 162 [.pointer none])))) 163 [.string ByteArray.empty,.int .i64 0] (nd (nd (nd (lf 164 [.string ByteArray.empty,.int 
 .i64 0]) 165 [.nilFunc] (lf 166 [.nilFunc])) 170 [.nilFunc] (nd (lf 171 [.nilFunc]) 172 [.pointer none] (lf 173 [.nilFunc]))) 174 [.nilFunc] (nd (nd (lf 175 [.nilFunc]) 
 176 [.nilFunc] (lf 177 [.nilFunc])) 179 [.nilFunc] (nd (lf 181 [.nilFunc]) 182 [.nilFunc] (lf 183 [.nilFunc]))))) 184 [.nilFunc] (nd (nd (nd (nd (nd (lf 185 [.nilFunc]) 
 186 [.nilFunc] .nil) 187 [.nilFunc] (lf 188 [.nilFunc])) 189 [.nilFunc] (nd (lf 190 [.nilFunc]) 191 [.pointer none] (lf 192 [.nilIface]))) 193 [.nilIface] (nd (nd 
 (lf 195 [.nilFunc]) 196 [.nilFunc] (lf 197 [.nilFunc])) 199 [.nilFunc] (nd (lf 200 [.nilFunc]) 202 [.nilFunc] (lf 203 [.nilFunc])))) 204 [.nilFunc] (nd (nd (nd (lf 
 205 [.nilFunc]) 206 [.nilFunc] (lf 207 [.nilFunc])) 208 [.nilFunc] (nd (lf 209 [.nilFunc]) 211 [.nilFunc] (lf 212 [.nilFunc]))) 214 [.nilFunc] (nd (nd (lf 216 [.nilFunc]) 
 217 [.slice none 0 0] (lf 218 [.nilFunc])) 219 [.nilFunc] (nd (lf 220 [.nilFunc]) 221 [.nilFunc] (lf 222 [.bool false,.slice none 0 0,.slice none 0 0])))))) 223 
 [.bool false,.slice none 0 0,.slice none 0 0] (nd (nd (nd (nd (nd (nd (lf 224 [.nilFunc]) 225 [.string ByteArray.empty,.string ByteArray.empty,.string ByteArray.empty,
 .string ByteArray.empty,.string ByteArray.empty,.string ByteArray.empty,.string ByteArray.empty,.string ByteArray.empty,.string ByteArray.empty,.string ByteArray.empty,
 .string ByteArray.empty,.string ByteArray.empty] .nil) 226 [.nilFunc] (lf 228 [.nilFunc])) 230 [.nilFunc] (nd (lf 231 [.nilFunc]) 232 [.nilFunc] (lf 233 [.nilFunc]))) 
 234 [.nilFunc] (nd (nd (lf 235 [.nilFunc]) 236 [.nilFunc] (lf 237 [.slice none 0 0])) 238 [.nilFunc] (nd (lf 239 [.nilFunc]) 240 [.nilFunc] (lf 241 [.slice none 
 0 0,.slice none 0 0,.int .i64 0,.bool false])))) 242 [.slice none 0 0,.slice none 0 0,.int .i64 0,.bool false] (nd (nd (nd (lf 243 [.pointer none]) 244 [.nilFunc] 
 (lf 245 [.int .u8 0,.int .u8 0,.int .u8 0,.int .u8 0,.int .u8 0,.int .u8 0,.int .u8 0,.int .u8 0,.int .u8 0,.int .u8 0,.int .u8 0,.int .u8 0,.int .u8 
 0,.int .u8 0,.int .u8 0,.int .u8 0,.int .u8 0,.int .u8 0,.int .u8 0,.int .u8 0,.int .u8 0,.int .u8 0,.int .u8 0,.int .u8 0])) 246 [.nilFunc] (nd (lf 248 
 [.nilFunc]) 249 [.nilFunc] (lf 251 [.int .u8 0,.int .u8 0]))) 252 [.int .u8 0,.int .u8 0] (nd (nd (lf 253 [.int .u8 0,.int .u8 0,.int .u8 0,.int .u8 0,.int 
 .u8 0,.int .u8 0,.int .u8 0,.int .u8 0,.int .u8 0,.int .u8 0,.int .u8 0,.int .u8 0,.int .u8 0,.int .u8 0,.int .u8 0,.int .u8 0,.int .u8 0,.int .u8 0,
 .int .u8 0,.int .u8 0,.int .u8 0,.int .u8 0,.int .u8 0,.int .u8 0,.int .u8 0,.int .u8 0,.int .u8 0,.int .u8 0,.int .u8 0,.int .u8 0,.int .u8 0,.int 
 .u8 0]) 254 [.nilFunc] (lf 255 [.nilFunc])) 256 [.int .i64 0] (nd (lf 257 [.nilFunc]) 258 [.pointer none] (lf 259 [.nilFunc]))))) 260 [.nilFunc] (nd (nd (nd (nd 
 (lf 261 [.nilFunc]) 263 [.nilFunc] (lf 264 [.nilFunc])) 265 [.nilFunc] (nd (lf 266 [.int .u64 0,.int .u64 0,.int .u64 0,.int .u64 0,.int .u64 0,.int .u64 0,
 .int .u64 0,.int .u64 0,.int .u64 0,.int .u64 0,.int .u64 0,.int .u64 0,.int .u64 0,.int .u64 0,.int .u64 0,.int .u64 0,.int .u64 0,.int .u64 0,.int 
 .u64 0,.int .u64 0]) 268 [.nilFunc] (lf 269 [.string ByteArray.empty,.string ByteArray.empty,.nilIface]))) 270 [.string ByteArray.empty,.string ByteArray.empty,
 .nilIface] (nd (nd (lf 271 [.nilFunc]) 272 [.nilFunc] (lf 274 [.nilFunc])) 275 [.nilFunc] (nd (lf 276 [.nilFunc]) 277 [.pointer none] (lf 278 [.string ByteArray.empty])))) 
 279 [.string ByteArray.empty] (nd (nd (nd (lf 280 [.nilFunc]) 281 [.nilFunc] (lf 282 [.int .u8 0,.int .u8 0,.int .u8 0,.int .u8 0,.int .u8 0,.int .u8 0,.int 
 .u8 0,.int .u8 0,.int .u8 0,.int .u8 0,.int .u8 0,.int .u8 0,.int .u8 0,.int .u8 0,.int .u8 0,.int .u8 0,.int .u8 0,.int .u8 0,.int .u8 0,.int .u8 0,
 .int .u8 0,.int .u8 0,.int .u8 0,.int .u8 0,.int .u8 0,.int .u8 0,.int .u8 0,.int .u8 0,.int .u8 0,.int .u8 0,.int .u8 0,.int .u8 0])) 284 [.pointer none,
 .pointer none,.pointer none,.string ByteArray.empty] (nd (lf 285 [.pointer none,.pointer none,.pointer none,.string ByteArray.empty]) 286 [] (lf 287 []))) 288 
 [] (nd (nd (lf 289 [.int .u8 0]) 290 [.int .u8 0] (lf 291 [.nilFunc])) 292 [.int .i32 0] (nd (lf 293 [.int .i32 0]) 294 [.int .u64 0,.int .u64 0,.int .u32 0,.int 
 .u8 0,.int .u8 0,.int .u8 0,.int .u8 0,.nilFunc,.pointer none,.int .i32 0,.int .i32 0] (lf 295 [.int .u64 0,.int .u64 0,.int .u32 0,.int .u8 0,.int .u8 
 0,.int .u8 0,.int .u8 0,.nilFunc,.pointer none,.int .i32 0,.int .i32 0])))))))) 
def zsB:Bt (List (Option (Nat×Nat))):=(nd (nd (nd (nd (nd (lf 37 [some (105,1)]) 38 [some (105,1)] .nil) 44 [none,some (105,1),some (105,1)] (lf 45 [none,some (105,1),some (105,1)])) 55 [some 
 (62,5)] (nd (lf 63 [some (122,20)]) 64 [some (80,15)] (lf 65 [none,some (122,20),some (80,15),some (80,15)]))) 66 [none,some (122,20),some (80,15),
 some (80,15)] (nd (nd (nd (lf 68 [some (23,1)]) 70 [some (9,1)] .nil) 71 [some (23,1),some (9,1)] (lf 72 [some (23,1),some (9,1)])) 75 [some (78,7)] (nd 
 (lf 77 [none,none,none,none,none,none,some (78,7)]) 78 [none,none,none,none,none,none,some (78,7)] (lf 79 [none,none,none,some (78,7),none,none,
 none,none,none,none,some (78,7),none,none,some (80,15),some (80,15)])))) 80 [none,none,none,some (78,7),none,none,none,none,none,none,some 
 (78,7),none,none,some (80,15),some (80,15)] (nd (nd (nd (nd (lf 86 [some (105,1),some (105,1)]) 87 [some (105,1),some (105,1)] .nil) 93 [some (105,
 1),some (105,1)] (lf 121 [none,none,none,none,none,none,none,none,none,none,none,none,some (78,7),none,none,none,none,none,none,some (78,7)])) 
 122 [none,none,none,none,none,none,none,none,none,none,none,none,some (78,7),none,none,none,none,none,none,some (78,7)] (nd (lf 129 [some (5,
 1)]) 130 [none,some (5,1)] (lf 131 [none,some (5,1)]))) 132 [none,some (5,1),none] (nd (nd (lf 133 [none,some (5,1),none]) 217 [some (4,1)] (lf 222 [none,
 some (4,1),some (4,1)])) 223 [none,some (4,1),some (4,1)] (nd (lf 237 [some (22,1)]) 241 [some (4,1),some (4,1),none,none] (lf 242 [some (4,1),some 
 (4,1),none,none]))))) 
def qyy:Bt (List Nat):=(nd (nd (nd (nd (nd (nd (nd (lf 8 [0,1,2,3,4,5,6,9,12,21,39,57]) 12 [0,2,3,6,8,9,11,15] .nil) 13 [0,2,3,4,5,6,7,8,9,11,21,32,33,34,
 39] (lf 16 [0,2,4,5,12,19,22,29])) 18 [0,2,4] (nd (lf 20 [0,1,4,5,6,7,8,12,16,20,34,44,50]) 22 [0,2] (lf 24 [0,1,4,5,6,7,8,9,10,17,
 18,19,20,24,25,26,27]))) 26 [0,2,3] (nd (nd (nd (lf 37 [0,1,2,3,4,5]) 38 [0,1,2,4,5,6,16,34,49,64,75] .nil) 39 [0,1,2,3,4,9] (lf 40 [0,
 1,2,3])) 41 [0,1,2,3,4,5,14,32,33,36,37,43,49,54,65,71,77,84,91] (nd (lf 42 [0,1,2,3,5,15,16,17,18]) 43 [0,1,2,3,4,5,6,7,17,
 26,37,38,42,46,52,61] (lf 44 [0,1,2,3,4])))) 46 [0,1,4,5,6,11,23,38,55] (nd (nd (nd (nd (lf 47 [0,2,3,4,5,7]) 48 [0,1,2,3,28] .nil) 49 
 [0,1,2,5,6] (lf 50 [0,1,2,3,8,9,10,11,12,13,15,24,36,38])) 51 [0,2,3] (nd (lf 52 [0,1,2,4,5,6,8,9,48]) 53 [0,1,4,5,6] (lf 54 [0,2,
 3,4,5,10,18,19,41,49]))) 58 [0,2,3,4] (nd (nd (lf 61 [0,2]) 62 [0,1,4,5,6,7,12,13,14] (lf 63 [0,2,3,8])) 64 [0,2] (nd (lf 67 [0,2,14]) 69 
 [0,1,2,6,7,8,18,24] (lf 80 [0,1,2]))))) 81 [0,1,2,3,4,5,6] (nd (nd (nd (nd (nd (lf 82 [0,1,2,3,4]) 83 [0,1,2,4,5,6,23] .nil) 84 [0,1,4,
 5,6,15,32,46,60,74] (lf 85 [0,1,2,3,4,7,17])) 86 [0,2,3,4,5,9,19] (nd (lf 87 [0,1,3,4,20,30,41,51,67,76,86,96,103,110]) 88 [0,2] 
 (lf 89 [0,1,2,3,4,6,7,34]))) 90 [0,2,4] (nd (nd (lf 91 [0,1,2,4,5,17,26]) 92 [0,1,2,3,4,6,11] (lf 93 [0,1,5,6,7,8,9])) 94 [0,2] (nd (lf 
 95 [0,1,3,4,6,18,26]) 96 [0,1,5,16,17,18,19] (lf 97 [0,1,2,3,6,7,8,9,13,21,22,33,52,77,92])))) 98 [0,1,2,6,7,12,14,15,16,28] (nd 
 (nd (nd (nd (lf 99 [0,1,2,3,4]) 100 [0,1,2,6,7,12,14,15,16,28] .nil) 101 [0,1,2,3,4] (lf 102 [0,1,4,5,6,7,8,9,10,11,12,14,18,34,40,
 42,43,49,58,67,76,85,96,104,113])) 103 [0,2,3,5,6,14,15,21] (nd (lf 104 [0,1,4,5,6,7,8,10,15,18,32,33,34,35]) 105 [0,1,4,5,6,7,
 15,26,29] (lf 106 [0,1,2,4,5,6,7,8,9,10,11,12,13,14,15,16,36,71,75,81,90,95,100]))) 107 [0,2,3] (nd (nd (lf 108 [0,1,4,5,6,7,8,9,
 10,11,12,13,18,22,29,72]) 109 [0,2,3,6] (lf 110 [0,1,4,13])) 111 [0,1,4,5,6,12,21,31] (nd (lf 112 [0,1,4,5,6,7]) 113 [0,1,4,8] (lf 114 
 [0,2,3,9])))))) 118 [0,2,3,4,5,9,16] (nd (nd (nd (nd (nd (nd (lf 121 [0,2,4,8]) 122 [0,2,4,8,14] .nil) 125 [0,1,4] (lf 126 [0,1,4])) 134 [0,
 1,2,3,6,7,8,9,10,27] (nd (lf 135 [0,2,3,5,8,9,10,11]) 136 [0,1,2,6,7,12,14,15,16,28] (lf 137 [0,1,4,5,6,15]))) 138 [0,2] (nd (nd (lf 
 139 [0,1,2,4,19]) 140 [0,2] (lf 141 [0,2])) 142 [0,1,2,3,6] (nd (lf 143 [0,2,3,4,14]) 144 [0,1,4,5] (lf 145 [0,2])))) 146 [0,2,3,4,6,8] (nd 
 (nd (nd (nd (lf 147 [0,1,3,5,6,16,31,46,54]) 148 [0,1] .nil) 149 [0,1,4,5,6,7,8,9] (lf 150 [0,1,7,21])) 151 [0,2] (nd (lf 152 [0,1,2,5]) 153 
 [0,1,2,4,5,6,8,22,26] (lf 154 [0,1,2,4,6,14,17]))) 155 [0,1,2,3,4,5,10,11,19] (nd (nd (lf 156 [0,1,2,4,5,6,12]) 157 [0,2,4] (lf 158 
 [0,2])) 159 [0,1,2,6,7,8,9,13,14,15,23] (nd (lf 160 [0,1,4,5,6,7,8,9,10,11,12,13,14,15,64,71,73,74,75,79,110,114,115,116,120]) 
 161 [0,1,4,5,6,7,14,20,21,22] (lf 162 [0,1,4,16]))))) 163 [0,1,4,7,15] (nd (nd (nd (nd (nd (lf 164 [0,1,4,5,6,9,17,26]) 165 [0,1,2] .nil) 
 167 [0,1,4] (lf 168 [0,2,3,10])) 169 [0,1,4] (nd (lf 170 [0,1,4]) 171 [0,1,4] (lf 181 [0,1,2,4,10]))) 182 [0,2,3] (nd (nd (lf 183 [0,6,19]) 184 
 [0,1,4,5,6,7,9,11,17,23,34] (lf 185 [0,1,4,5,6])) 186 [0,1,4,5,6,7,8,9,10,11,12,13] (nd (lf 187 [0,1,4]) 188 [0,1,2,4] (lf 189 [0,
 1,2,4])))) 190 [0,2,3,4,5,6,10,18,27,33,35,48] (nd (nd (nd (nd (lf 191 [0,1,3,8,18]) 192 [0,2,3,4,5,6,7,8,9,10,11,12,16,23,45,57,
 59,75,77,98] .nil) 193 [0,1,4,5,6,7,8,9,10,11,12,13,14,15,16,26,33,43,51,64,98,108,124,139,143,156,160,171,175,176,177,181,183] 
 (lf 205 [0,2,4])) 206 [0,2,3] (nd (lf 207 [0,1,4,5,6,7,8,9,10,11,12,13,14,15,16,20,99,139,161]) 208 [0,1,2,3,4,10,11,12,13,14,15,
 16,17,18,28,30,34,46,68,89,94] (lf 210 [0,2]))) 211 [0,2,3,10] (nd (nd (lf 212 [0,2]) 224 [0,2] (lf 225 [0,2,3])) 226 [0,2] (nd (lf 227 [0,2]) 
 235 [0,2,4] (lf 236 [0,2,4]))))))) 
def dmB:Bt (Nat):=(nd (nd (nd (nd (nd (lf 8202 9) 8206 14 .nil) 8208 6 (nd (lf 41987 15) 41999 6 .nil)) 44052 12 (nd (nd (lf 44054 12) 47109 7 .nil) 49153 5 (nd (lf 49154 12) 53249 
 18 .nil))) 53251 7 (nd (nd (nd (lf 82950 3) 90113 10 .nil) 94211 6 (nd (lf 97284 8) 97288 8 .nil)) 99338 8 (nd (nd (lf 99341 18) 99346 28 .nil) 100358 9 (nd (lf 
 102406 9) 108547 7 .nil)))) 114697 3 (nd (nd (nd (nd (lf 116739 6847) 137220 4 .nil) 137222 6 (nd (lf 139270 9) 150542 12 .nil)) 153603 12 (nd (nd (lf 156682 25) 
 157704 14 .nil) 163842 12 (nd (lf 163844 7) 163845 20 .nil))) 191488 14 (nd (nd (nd (lf 197638 6) 197639 7 .nil) 197646 10 (nd (lf 197663 10) 211975 9999 .nil)) 
 211976 9999 (nd (nd (lf 211977 9999) 211978 9999 .nil) 211985 9999 (nd (lf 211986 9999) 211991 9999 .nil))))) 
def qk1:Bt (Func):=(nd (nd (nd (nd (nd (nd (nd (lf 8 Tryz.f8) 12 Tryz.f12 .nil) 13 Tryz.f13 (lf 16 Tryz.f16)) 18 Tryz.f18 (nd (lf 20 Tryz.f20) 22 Tryz.f22 (lf 24 Tryz.f24))) 26 Tryz.f26 
 (nd (nd (nd (lf 37 Tryz.f37) 38 Tryz.f38 .nil) 39 Tryz.f39 (lf 40 Tryz.f40)) 41 Tryz.f41 (nd (lf 42 Tryz.f42) 43 Tryz.f43 (lf 44 Tryz.f44)))) 46 Tryz.f46 (nd (nd 
 (nd (nd (lf 47 Tryz.f47) 48 Tryz.f48 .nil) 49 Tryz.f49 (lf 50 Tryz.f50)) 51 Tryz.f51 (nd (lf 52 Tryz.f52) 53 Tryz.f53 (lf 54 Tryz.f54))) 58 Tryz.f58 (nd (nd (lf 
 61 Tryz.f61) 62 Tryz.f62 (lf 63 Tryz.f63)) 64 Tryz.f64 (nd (lf 67 Tryz.f67) 69 Tryz.f69 (lf 80 Tryz.f80))))) 81 Tryz.f81 (nd (nd (nd (nd (nd (lf 82 Tryz.f82) 83 
 Tryz.f83 .nil) 84 Tryz.f84 (lf 85 Tryz.f85)) 86 Tryz.f86 (nd (lf 87 Tryz.f87) 88 Tryz.f88 (lf 89 Tryz.f89))) 90 Tryz.f90 (nd (nd (lf 91 Tryz.f91) 92 Tryz.f92 (lf 
 93 Tryz.f93)) 94 Tryz.f94 (nd (lf 95 Tryz.f95) 96 Tryz.f96 (lf 97 Tryz.f97)))) 98 Tryz.f98 (nd (nd (nd (nd (lf 99 Tryz.f99) 100 Tryz.f100 .nil) 101 Tryz.f101 (lf 
 102 Tryz.f102)) 103 Tryz.f103 (nd (lf 104 Tryz.f104) 105 Tryz.f105 (lf 106 Tryz.f106))) 107 Tryz.f107 (nd (nd (lf 108 Tryz.f108) 109 Tryz.f109 (lf 110 Tryz.f110)) 
 111 Tryz.f111 (nd (lf 112 Tryz.f112) 113 Tryz.f113 (lf 114 Tryz.f114)))))) 118 Tryz.f118 (nd (nd (nd (nd (nd (nd (lf 121 Tryz.f121) 122 Tryz.f122 .nil) 125 Tryz.f125 
 (lf 126 Tryz.f126)) 134 Tryz.f134 (nd (lf 135 Tryz.f135) 136 Tryz.f136 (lf 137 Tryz.f137))) 138 Tryz.f138 (nd (nd (lf 139 Tryz.f139) 140 Tryz.f140 (lf 141 Tryz.f141)) 
 142 Tryz.f142 (nd (lf 143 Tryz.f143) 144 Tryz.f144 (lf 145 Tryz.f145)))) 146 Tryz.f146 (nd (nd (nd (nd (lf 147 Tryz.f147) 148 Tryz.f148 .nil) 149 Tryz.f149 (lf 150 
 Tryz.f150)) 151 Tryz.f151 (nd (lf 152 Tryz.f152) 153 Tryz.f153 (lf 154 Tryz.f154))) 155 Tryz.f155 (nd (nd (lf 156 Tryz.f156) 157 Tryz.f157 (lf 158 Tryz.f158)) 159 
 Tryz.f159 (nd (lf 160 Tryz.f160) 161 Tryz.f161 (lf 162 Tryz.f162))))) 163 Tryz.f163 (nd (nd (nd (nd (nd (lf 164 Tryz.f164) 165 Tryz.f165 .nil) 167 Tryz.f167 (lf 
 168 Tryz.f168)) 169 Tryz.f169 (nd (lf 170 Tryz.f170) 171 Tryz.f171 (lf 181 Tryz.f181))) 182 Tryz.f182 (nd (nd (lf 183 Tryz.f183) 184 Tryz.f184 (lf 185 Tryz.f185)) 
 186 Tryz.f186 (nd (lf 187 Tryz.f187) 188 Tryz.f188 (lf 189 Tryz.f189)))) 190 Tryz.f190 (nd (nd (nd (nd (lf 191 Tryz.f191) 192 Tryz.f192 .nil) 193 Tryz.f193 (lf 205 
 Tryz.f205)) 206 Tryz.f206 (nd (lf 207 Tryz.f207) 208 Tryz.f208 (lf 210 Tryz.f210))) 211 Tryz.f211 (nd (nd (lf 212 Tryz.f212) 224 Tryz.f224 (lf 225 Tryz.f225)) 226 
 Tryz.f226 (nd (lf 227 Tryz.f227) 235 Tryz.f235 (lf 236 Tryz.f236))))))) 
def mdB:Bt (Nat):=(nd (nd (lf 49 2) 114 3 .nil) 159 2 (lf 160 3)) 
def qwO:Bt (Unit):=(nd (nd (nd (nd (nd (nd (nd (nd (lf 0 ()) 1 () .nil) 2 () (lf 3 ())) 4 () (nd (nd (lf 5 ()) 6 () .nil) 7 () (lf 8 ()))) 9 () (nd (nd (nd (lf 10 ()) 11 () .nil) 12 
 () (lf 13 ())) 14 () (nd (lf 15 ()) 16 () (lf 17 ())))) 18 () (nd (nd (nd (nd (lf 19 ()) 20 () .nil) 21 () (lf 22 ())) 23 () (nd (nd (lf 24 ()) 25 () .nil) 26 () 
 (lf 27 ()))) 28 () (nd (nd (nd (lf 29 ()) 30 () .nil) 31 () (lf 32 ())) 33 () (nd (lf 34 ()) 35 () (lf 36 ()))))) 37 () (nd (nd (nd (nd (nd (lf 38 ()) 39 () .nil) 
 40 () (lf 41 ())) 42 () (nd (nd (lf 43 ()) 44 () .nil) 45 () (lf 46 ()))) 47 () (nd (nd (nd (lf 48 ()) 49 () .nil) 50 () (lf 51 ())) 52 () (nd (lf 53 ()) 54 () (lf 
 55 ())))) 56 () (nd (nd (nd (nd (lf 57 ()) 58 () .nil) 59 () (lf 60 ())) 61 () (nd (lf 62 ()) 63 () (lf 64 ()))) 65 () (nd (nd (nd (lf 66 ()) 67 () .nil) 68 () (lf 
 69 ())) 70 () (nd (lf 71 ()) 72 () (lf 73 ())))))) 74 () (nd (nd (nd (nd (nd (nd (lf 75 ()) 76 () .nil) 77 () (lf 78 ())) 79 () (nd (nd (lf 80 ()) 81 () .nil) 82 
 () (lf 83 ()))) 84 () (nd (nd (nd (lf 85 ()) 86 () .nil) 87 () (lf 88 ())) 89 () (nd (lf 90 ()) 91 () (lf 92 ())))) 93 () (nd (nd (nd (nd (lf 94 ()) 95 () .nil) 
 96 () (lf 97 ())) 98 () (nd (lf 99 ()) 100 () (lf 101 ()))) 102 () (nd (nd (nd (lf 103 ()) 104 () .nil) 105 () (lf 106 ())) 107 () (nd (lf 108 ()) 109 () (lf 110 
 ()))))) 111 () (nd (nd (nd (nd (nd (lf 112 ()) 113 () .nil) 114 () (lf 115 ())) 116 () (nd (nd (lf 117 ()) 118 () .nil) 119 () (lf 120 ()))) 121 () (nd (nd (nd (lf 
 122 ()) 123 () .nil) 124 () (lf 125 ())) 126 () (nd (lf 127 ()) 128 () (lf 129 ())))) 130 () (nd (nd (nd (nd (lf 131 ()) 132 () .nil) 133 () (lf 134 ())) 135 () 
 (nd (lf 136 ()) 137 () (lf 138 ()))) 139 () (nd (nd (nd (lf 140 ()) 141 () .nil) 142 () (lf 143 ())) 144 () (nd (lf 145 ()) 146 () (lf 147 ()))))))) 148 () (nd (nd 
 (nd (nd (nd (nd (nd (lf 149 ()) 150 () .nil) 151 () (lf 152 ())) 153 () (nd (nd (lf 154 ()) 155 () .nil) 156 () (lf 157 ()))) 158 () (nd (nd (nd (lf 159 ()) 160 
 () .nil) 161 () (lf 162 ())) 163 () (nd (lf 164 ()) 165 () (lf 166 ())))) 167 () (nd (nd (nd (nd (lf 168 ()) 169 () .nil) 170 () (lf 171 ())) 172 () (nd (lf 173 
 ()) 174 () (lf 175 ()))) 176 () (nd (nd (nd (lf 177 ()) 178 () .nil) 179 () (lf 180 ())) 181 () (nd (lf 182 ()) 183 () (lf 184 ()))))) 185 () (nd (nd (nd (nd (nd 
 (lf 186 ()) 187 () .nil) 188 () (lf 189 ())) 190 () (nd (nd (lf 191 ()) 192 () .nil) 193 () (lf 194 ()))) 195 () (nd (nd (nd (lf 196 ()) 197 () .nil) 198 () (lf 
 199 ())) 200 () (nd (lf 201 ()) 202 () (lf 203 ())))) 204 () (nd (nd (nd (nd (lf 205 ()) 206 () .nil) 207 () (lf 208 ())) 209 () (nd (lf 210 ()) 211 () (lf 212 ()))) 
 213 () (nd (nd (nd (lf 214 ()) 215 () .nil) 216 () (lf 217 ())) 218 () (nd (lf 219 ()) 220 () (lf 221 ())))))) 222 () (nd (nd (nd (nd (nd (nd (lf 223 ()) 224 () 
 .nil) 225 () (lf 226 ())) 227 () (nd (nd (lf 228 ()) 229 () .nil) 230 () (lf 231 ()))) 232 () (nd (nd (nd (lf 233 ()) 234 () .nil) 235 () (lf 236 ())) 237 () (nd 
 (lf 238 ()) 239 () (lf 240 ())))) 241 () (nd (nd (nd (nd (lf 242 ()) 243 () .nil) 244 () (lf 245 ())) 246 () (nd (lf 247 ()) 248 () (lf 249 ()))) 250 () (nd (nd 
 (nd (lf 251 ()) 252 () .nil) 253 () (lf 254 ())) 255 () (nd (lf 256 ()) 257 () (lf 258 ()))))) 259 () (nd (nd (nd (nd (nd (lf 260 ()) 261 () .nil) 262 () (lf 263 
 ())) 264 () (nd (nd (lf 265 ()) 266 () .nil) 267 () (lf 268 ()))) 269 () (nd (nd (nd (lf 270 ()) 271 () .nil) 272 () (lf 273 ())) 274 () (nd (lf 275 ()) 276 () (lf 
 277 ())))) 278 () (nd (nd (nd (nd (lf 279 ()) 280 () .nil) 281 () (lf 282 ())) 283 () (nd (lf 284 ()) 285 () (lf 286 ()))) 287 () (nd (nd (nd (lf 288 ()) 289 () 
 .nil) 290 () (lf 291 ())) 292 () (nd (lf 293 ()) 294 () (lf 295 ())))))))) 
def goB:Bt (Unit):=(nd (nd (nd (nd (nd (nd (nd (lf 8 ()) 12 () .nil) 13 () (lf 16 ())) 18 () (nd (lf 20 ()) 22 () (lf 24 ()))) 26 () (nd (nd (nd (lf 37 ()) 38 () .nil) 39 () (lf 40 
 ())) 41 () (nd (lf 42 ()) 43 () (lf 44 ())))) 46 () (nd (nd (nd (nd (lf 47 ()) 48 () .nil) 49 () (lf 50 ())) 51 () (nd (lf 52 ()) 53 () (lf 54 ()))) 58 () (nd (nd 
 (lf 61 ()) 62 () (lf 63 ())) 64 () (nd (lf 67 ()) 69 () (lf 80 ()))))) 81 () (nd (nd (nd (nd (nd (lf 82 ()) 83 () .nil) 84 () (lf 85 ())) 86 () (nd (lf 87 ()) 88 
 () (lf 89 ()))) 90 () (nd (nd (lf 91 ()) 92 () (lf 93 ())) 94 () (nd (lf 95 ()) 96 () (lf 97 ())))) 98 () (nd (nd (nd (nd (lf 99 ()) 100 () .nil) 101 () (lf 102 
 ())) 103 () (nd (lf 104 ()) 105 () (lf 106 ()))) 107 () (nd (nd (lf 108 ()) 109 () (lf 110 ())) 111 () (nd (lf 112 ()) 113 () (lf 114 ())))))) 118 () (nd (nd (nd 
 (nd (nd (nd (lf 121 ()) 122 () .nil) 125 () (lf 126 ())) 134 () (nd (lf 135 ()) 136 () (lf 137 ()))) 138 () (nd (nd (lf 139 ()) 140 () (lf 141 ())) 142 () (nd (lf 
 143 ()) 144 () (lf 145 ())))) 146 () (nd (nd (nd (nd (lf 147 ()) 148 () .nil) 149 () (lf 150 ())) 151 () (nd (lf 152 ()) 153 () (lf 154 ()))) 155 () (nd (nd (lf 
 156 ()) 157 () (lf 158 ())) 159 () (nd (lf 160 ()) 161 () (lf 162 ()))))) 163 () (nd (nd (nd (nd (nd (lf 164 ()) 165 () .nil) 167 () (lf 168 ())) 169 () (nd (lf 
 170 ()) 171 () (lf 181 ()))) 182 () (nd (nd (lf 183 ()) 184 () (lf 185 ())) 186 () (nd (lf 187 ()) 188 () (lf 189 ())))) 190 () (nd (nd (nd (nd (lf 191 ()) 192 () 
 .nil) 193 () (lf 205 ())) 206 () (nd (lf 207 ()) 208 () (lf 210 ()))) 211 () (nd (nd (lf 212 ()) 224 () (lf 225 ())) 226 () (nd (lf 227 ()) 235 () (lf 236 ()))))))) 
def jnB:Bt (Unit):=(nd (lf 106 ()) 222 () .nil) 
def ozB:Bt (Unit):=(nd (lf 108 ()) 160 () .nil) 
def bzB:Bt (Unit):=.nil 
def fbB:Bt (Unit):=.nil 
def nzB:Bt (Nat):=(nd (nd (lf 19 1) 176 4 .nil) 178 4 (lf 179 4)) 
def lvB:Bt (List Nat):=(nd (nd (nd (nd (nd (lf 8 [1,3,4,5,6,60,61,62,63,64,65]) 13 [6,8,9,32,33] .nil) 20 [1,6,7,8] (nd (lf 24 [1,5,6,7,8,17,18,19,24,25,26]) 
 38 [1,2,5,6,13,14,15] .nil)) 39 [1,3,4] (nd (nd (lf 42 [1,3,15,16,17]) 43 [2,3,5,6] .nil) 48 [1,3] (nd (lf 54 [0,3,5,18,34,35,36,37,38,39,
 40]) 62 [0,1,5,6,12,13] .nil))) 67 [0,7,8,9,10,11,12,13] (nd (nd (nd (lf 83 [1,2,5,6,20,21,22]) 84 [0,1,5,6,12,13,14] .nil) 85 [1,3,4] 
 (nd (lf 86 [0,3,4,5]) 91 [1,2,5,12,13,14,15,16] .nil)) 93 [0,6,7,8] (nd (nd (lf 96 [0,16,17,18]) 97 [1,2,3,7,8] .nil) 98 [0,1,2,14,15] (nd 
 (lf 100 [0,1,2,14,15]) 102 [7,8,9] .nil)))) 104 [1,7,8,32,33,34] (nd (nd (nd (nd (lf 105 [0,1,5]) 106 [1,2,6,7,8,9,10,13,14,15,89] .nil) 108 
 [9,10,11,12,13] (nd (lf 114 [0,2,3]) 118 [0,2,4] .nil)) 134 [1,2,3,7,8,9,24,25,26] (nd (nd (lf 135 [3,8,9,10]) 136 [0,1,2,14,15] .nil) 137 
 [0,1,5,6,12,13,14] (nd (lf 143 [3,4]) 153 [1,2,4,6,13,14,15,46,47,48,49,50,51] .nil))) 154 [1,2,4] (nd (nd (nd (lf 159 [0,1,7,13,14]) 160 
 [0,1,5,7,8,9,10,11,14,46,47,48,49,50,51,52,53,54,55,56,57,58,59,60,61,62,63,73,74,114,115] .nil) 161 [1,5,6,20,21] (nd (lf 162 
 [0,1,9,10,11,12,13,14,15]) 163 [0,1] .nil)) 164 [0,1] (nd (nd (lf 190 [0,4,5,6]) 191 [0,1,3] .nil) 193 [175] (nd (lf 207 [0,1,4]) 208 [0,1,3,
 4,10,11,12,13,14,15,16,17] .nil))))) 
def rjB:Bt (List Nat):=.nil 
def gT4:T:=.agg [.s (.int .u64 1),.s (.int .u64 10),.s (.int .u64 100),.s (.int .u64 1000),.s (.int .u64 10000),.s (.int .u64 100000),.s (.int .u64 1000000),.s (.int .u64 10000000),.s (.int .u64 100000000),.s (.int .u64 1000000000),.s (.int .u64 10000000000),.s (.int .u64 100000000000),.s (.int .u64 1000000000000),.s (.int .u64 10000000000000),.s (.int .u64 100000000000000),.s (.int .u64 1000000000000000),.s (.int .u64 10000000000000000),.s (.int .u64 100000000000000000),.s (.int .u64 1000000000000000000),.s (.int .u64 10000000000000000000)]
def bts:Bts:=⟨tyB,kdB,foB,elB,zeB,zsB,qwO,fun g=>bif Nat.beq g 4 then some gT4 else none,fun g=>bif Nat.beq g 3 then some 0 else none,qyy,dmB,mdB,qk1,goB,jnB,ozB,bzB,fbB,nzB,lvB,rjB,([]:List (Nat×Nat))⟩
theorem k_ty:tyB.mp (fun k _=>Ty Tryz.prog k)=tyB.mp fun _ v=>some v:=by kernel_rfl
theorem k_kd:kdB.mp (fun k v=>qkZ Tryz.prog k v)=kdB.mp fun _ v=>some v:=by kernel_rfl
theorem k_fo:foB.mp (fun k _=>Fo Tryz.prog (k / 64) (k % 64))=foB.mp fun _ v=>some v:=by kernel_rfl
theorem k_al:foB.mp (fun k _=>qil Tryz.prog (k / 64))=foB.mp fun _ _=>true:=by kernel_rfl
theorem k_el:elB.mp (fun k _=>El Tryz.prog k)=elB.mp fun _ v=>some v:=by kernel_rfl
theorem k_ze:zeB.mp (fun k _=>Ze Tryz.prog k)=zeB.mp fun _ v=>some v:=by kernel_rfl
theorem k_zc:zeB.mp (fun _ v=>v.all qct)=zeB.mp fun _ _=>true:=by kernel_rfl
theorem qyz:qwO.mp (fun k _=>Nat.ble (Tryz.prog.bytesOf k) 256)=qwO.mp fun _ _=>true:=by kernel_rfl
theorem qyA:qk1.mp (fun k _=>Tryz.prog.funcs[k]?)=qk1.mp fun _ v=>some v:=by kernel_rfl
theorem k_gf:qk1.mp (fun k _=>(goB.get k).isSome)=qk1.mp fun _ _=>true:=by kernel_rfl
theorem k_go:goB.mp (fun k _=>qij Tryz.prog k)=goB.mp fun _ _=>true:=by kernel_rfl
theorem k_mo:Tryz.prog.follows .mixedOrders=true:=by kernel_rfl
theorem k_ex:∀p∈([]:List (Nat×Nat)),qma Tryz.prog p.1 p.2:=qwJ
theorem qme:BtsOK Tryz.prog bts:=⟨k_ty,k_kd,k_fo,k_al,k_el,k_ze,k_zc,qyz,qyA,k_gf,k_go,k_mo,k_ex⟩
theorem yI:qk1.mp (fun f fn=>match fn.body with|some c=>okC fn.ntmps bts.tbl f c|none=>true)=qk1.mp fun _ _=>true:=by kernel_rfl
noncomputable abbrev tb:Tbl:=bts.tbl
end
end Su
