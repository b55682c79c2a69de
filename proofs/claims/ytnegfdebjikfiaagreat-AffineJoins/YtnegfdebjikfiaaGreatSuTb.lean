/-
  An evaluator of the program's functions over trees of values, proved sound. No condition.
-/
import Derived.Test.YtnegfdebjikfiaaGreatProg
import Derived.Test.YtnegfdebjikfiaaGreatSuSd
import Derived.KernelRfl
set_option linter.unusedVariables false
set_option linter.unusedSimpArgs false
namespace Su
noncomputable section
open Go Go.Proofs Fly
set_option maxRecDepth 100000
abbrev nd{α:Type}(l:Bt α)(k:Nat)(v:α)(r:Bt α):Bt α:=.node l k v r
abbrev lf{α:Type}(k:Nat)(v:α):Bt α:=.node .nil k v .nil
abbrev p1:Bool×Nat:=(false,1)
def tyB:Bt (Bool×Nat):=(nd (nd (nd (nd (nd (nd (nd (lf 0 p1) 1 p1 (lf 2 p1)) 3 p1 (nd (lf 4 p1) 5 p1 .nil)) 6 p1 (nd (nd (lf 7 (true,4)) 8 (true,4) .nil) 9 p1 (nd (lf 10 p1) 11 p1 .nil))) 
 12 p1 (nd (nd (nd (lf 13 (true,2)) 14 (true,2) (lf 15 p1)) 16 p1 (nd (lf 17 p1) 18 (true,1) .nil)) 19 (true,1) (nd (nd (lf 20 p1) 21 p1 .nil) 22 p1 (nd (lf 23 
 p1) 24 (true,3) .nil)))) 25 (true,3) (nd (nd (nd (nd (lf 26 p1) 27 (true,4) (lf 28 (true,4))) 29 p1 (nd (lf 30 p1) 31 p1 .nil)) 32 (true,5) (nd (nd (lf 33 (true,
 5)) 34 p1 .nil) 35 p1 (nd (lf 36 p1) 37 p1 .nil))) 38 p1 (nd (nd (nd (lf 39 p1) 40 p1 .nil) 41 p1 (nd (lf 42 p1) 43 p1 .nil)) 44 p1 (nd (nd (lf 45 p1) 46 p1 .nil) 
 47 p1 (nd (lf 48 p1) 49 p1 .nil))))) 50 p1 (nd (nd (nd (nd (nd (lf 51 p1) 52 p1 (lf 53 p1)) 54 p1 (nd (lf 55 p1) 56 p1 .nil)) 57 (true,2) (nd (nd (lf 58 (true,
 2)) 59 p1 .nil) 60 p1 (nd (lf 61 p1) 62 p1 .nil))) 63 p1 (nd (nd (nd (lf 64 p1) 65 p1 .nil) 66 p1 (nd (lf 67 p1) 68 p1 .nil)) 69 p1 (nd (nd (lf 70 p1) 71 p1 .nil) 
 72 p1 (nd (lf 73 p1) 74 p1 .nil)))) 75 p1 (nd (nd (nd (nd (lf 76 p1) 77 p1 (lf 78 p1)) 79 p1 (nd (lf 80 p1) 81 p1 .nil)) 82 p1 (nd (nd (lf 83 p1) 84 p1 .nil) 85 
 p1 (nd (lf 86 p1) 87 p1 .nil))) 88 p1 (nd (nd (nd (lf 89 p1) 90 p1 .nil) 91 p1 (nd (lf 92 p1) 93 p1 .nil)) 94 p1 (nd (nd (lf 95 p1) 96 p1 .nil) 97 p1 (nd (lf 98 
 p1) 99 p1 .nil)))))) 100 p1 (nd (nd (nd (nd (nd (nd (lf 101 p1) 102 p1 (lf 103 p1)) 104 p1 (nd (lf 105 p1) 106 p1 .nil)) 107 p1 (nd (nd (lf 108 p1) 109 p1 .nil) 
 110 p1 (nd (lf 111 p1) 112 p1 .nil))) 113 p1 (nd (nd (nd (lf 114 p1) 115 p1 (lf 116 (true,5))) 117 (true,5) (nd (lf 118 p1) 119 p1 .nil)) 120 p1 (nd (nd (lf 121 
 p1) 122 p1 .nil) 123 p1 (nd (lf 124 p1) 125 p1 .nil)))) 126 p1 (nd (nd (nd (nd (lf 127 p1) 128 p1 (lf 129 p1)) 130 p1 (nd (lf 131 p1) 132 p1 .nil)) 133 p1 (nd (nd 
 (lf 134 p1) 135 p1 .nil) 136 (true,2) (nd (lf 137 (true,2)) 138 p1 .nil))) 139 p1 (nd (nd (nd (lf 140 p1) 141 p1 .nil) 142 p1 (nd (lf 143 p1) 144 p1 .nil)) 145 
 p1 (nd (nd (lf 146 p1) 147 p1 .nil) 148 p1 (nd (lf 149 p1) 150 p1 .nil))))) 151 p1 (nd (nd (nd (nd (nd (lf 152 p1) 153 p1 (lf 154 p1)) 155 p1 (nd (lf 156 p1) 157 
 p1 .nil)) 158 p1 (nd (nd (lf 159 p1) 160 (true,4) .nil) 161 (true,4) (nd (lf 162 p1) 163 (true,5) .nil))) 164 (true,5) (nd (nd (nd (lf 165 p1) 166 p1 .nil) 167 
 p1 (nd (lf 168 p1) 169 p1 .nil)) 170 p1 (nd (nd (lf 171 p1) 172 p1 .nil) 173 p1 (nd (lf 174 p1) 175 p1 .nil)))) 176 p1 (nd (nd (nd (nd (lf 177 p1) 178 p1 (lf 179 
 p1)) 180 p1 (nd (lf 181 p1) 182 p1 .nil)) 183 p1 (nd (nd (lf 184 p1) 185 p1 .nil) 186 p1 (nd (lf 187 (true,4)) 188 (true,4) .nil))) 189 (true,0) (nd (nd (nd (lf 
 190 (true,0)) 191 (true,0) .nil) 192 p1 (nd (lf 193 p1) 194 p1 .nil)) 195 p1 (nd (nd (lf 196 p1) 197 p1 .nil) 198 (true,11) (nd (lf 199 (true,11)) 200 p1 .nil))))))) 
def kdB:Bt (Kd):=(nd (nd (nd (nd (nd (lf 2 (.int .i64)) 3 (.int .i64) .nil) 4 .bool (lf 5 (.int .u8))) 6 (.int .u8) (nd (lf 7 (.flat [.int .i64,.int .i64,.bool,.int .u8])) 8 (.flat 
 [.int .i64,.int .i64,.bool,.int .u8]) (lf 9 .str))) 10 .str (nd (nd (nd (lf 11 .str) 12 (.int .u64) .nil) 21 (.int .i32) (lf 22 (.int .u64))) 23 (.int .u64) (nd 
 (lf 24 (.flat [.bool,.int .u64,.int .u64])) 25 (.flat [.bool,.int .u64,.int .u64]) (lf 57 (.flat [.int .i64,.int .u64]))))) 58 (.flat [.int .i64,.int .u64]) 
 (nd (nd (nd (nd (lf 68 (.int .u8)) 76 (.int .u64) .nil) 77 (.int .u8) (lf 96 (.int .u8))) 103 (.int .i64) (nd (lf 116 (.flat [.int .u64,.int .u8,.bool,.int .u64,
 .int .i64])) 117 (.flat [.int .u64,.int .u8,.bool,.int .u64,.int .i64]) (lf 136 (.flat [.int .u64,.int .u64])))) 137 (.flat [.int .u64,.int .u64]) (nd (nd 
 (lf 140 (.int .i64)) 147 (.int .u32) (lf 168 (.int .u64))) 192 (.int .u8) (nd (lf 193 (.int .u8)) 196 (.int .i32) (lf 197 (.int .i32)))))) 
def foB:Bt (Nat×Bool×Nat):=(nd (nd (nd (nd (nd (nd (lf 448 (0,false,1)) 449 (1,false,1) (lf 450 (2,false,1))) 451 (3,false,1) (nd (lf 512 (0,false,1)) 513 (1,false,1) .nil)) 514 
 (2,false,1) (nd (nd (lf 515 (3,false,1)) 832 (0,false,1) .nil) 833 (1,false,1) (nd (lf 896 (0,false,1)) 897 (1,false,1) .nil))) 1152 (0,false,1) (nd 
 (nd (nd (lf 1216 (0,false,1)) 1536 (0,false,1) (lf 1537 (1,false,1))) 1538 (2,false,1) (nd (lf 1600 (0,false,1)) 1601 (1,false,1) .nil)) 1602 (2,false,
 1) (nd (nd (lf 1728 (0,false,1)) 1729 (1,false,1) .nil) 1730 (2,false,1) (nd (lf 1731 (3,false,1)) 1792 (0,false,1) .nil)))) 1793 (1,false,1) (nd (nd 
 (nd (nd (lf 1794 (2,false,1)) 1795 (3,false,1) (lf 2048 (0,false,1))) 2049 (1,false,1) (nd (lf 2050 (2,false,1)) 2051 (3,false,1) .nil)) 2052 (4,false,
 1) (nd (nd (lf 2112 (0,false,1)) 2113 (1,false,1) .nil) 2114 (2,false,1) (nd (lf 2115 (3,false,1)) 2116 (4,false,1) .nil))) 3648 (0,false,1) (nd (nd 
 (nd (lf 3649 (1,false,1)) 3712 (0,false,1) (lf 3713 (1,false,1))) 7424 (0,false,1) (nd (lf 7425 (1,false,1)) 7426 (2,false,1) .nil)) 7427 (3,false,
 1) (nd (nd (lf 7428 (4,false,1)) 7488 (0,false,1) .nil) 7489 (1,false,1) (nd (lf 7490 (2,false,1)) 7491 (3,false,1) .nil))))) 7492 (4,false,1) (nd (nd 
 (nd (nd (nd (lf 8704 (0,false,1)) 8705 (1,false,1) (lf 8768 (0,false,1))) 8769 (1,false,1) (nd (lf 10240 (0,false,1)) 10241 (1,false,1) .nil)) 10242 
 (2,false,1) (nd (nd (lf 10243 (3,false,1)) 10304 (0,false,1) .nil) 10305 (1,false,1) (nd (lf 10306 (2,false,1)) 10307 (3,false,1) .nil))) 10432 (0,false,
 1) (nd (nd (nd (lf 10433 (1,true,2)) 10434 (3,false,1) (lf 10435 (4,false,1))) 10496 (0,false,1) (nd (lf 10497 (1,true,2)) 10498 (3,false,1) .nil)) 10499 
 (4,false,1) (nd (nd (lf 11968 (0,false,1)) 11969 (1,false,1) .nil) 11970 (2,false,1) (nd (lf 11971 (3,false,1)) 12032 (0,false,1) .nil)))) 12033 (1,
 false,1) (nd (nd (nd (nd (lf 12034 (2,false,1)) 12035 (3,false,1) (lf 12672 (0,false,1))) 12673 (1,false,1) (nd (lf 12674 (2,false,1)) 12675 (3,false,
 1) .nil)) 12676 (4,false,1) (nd (nd (lf 12677 (5,false,1)) 12678 (6,false,1) .nil) 12679 (7,false,1) (nd (lf 12680 (8,false,1)) 12681 (9,false,1) .nil))) 
 12682 (10,false,1) (nd (nd (nd (lf 12736 (0,false,1)) 12737 (1,false,1) .nil) 12738 (2,false,1) (nd (lf 12739 (3,false,1)) 12740 (4,false,1) .nil)) 12741 
 (5,false,1) (nd (nd (lf 12742 (6,false,1)) 12743 (7,false,1) .nil) 12744 (8,false,1) (nd (lf 12745 (9,false,1)) 12746 (10,false,1) .nil)))))) 
def elB:Bt (Nat×Nat):=(nd (nd (nd (lf 26 (58,2)) 30 (3,1) .nil) 31 (23,1) (lf 94 (25,3))) 100 (28,4) (nd (lf 114 (113,1)) 125 (4,1) (lf 155 (22,1)))) 
def zeB:Bt (List Value):=(nd (nd (nd (nd (nd (nd (nd (lf 1 [.nilFunc]) 2 [.int .i64 0] .nil) 3 [.int .i64 0] (nd (lf 4 [.bool false]) 5 [.int .u8 0] .nil)) 6 [.int .u8 0] (nd (nd (lf 7 [.int 
 .i64 0,.int .i64 0,.bool false,.int .u8 0]) 8 [.int .i64 0,.int .i64 0,.bool false,.int .u8 0] .nil) 9 [.string ByteArray.empty] (nd (lf 10 [.string ByteArray.empty]) 
 11 [.string ByteArray.empty] .nil))) 12 [.int .u64 0] (nd (nd (nd (lf 13 [.string ByteArray.empty,.int .u64 0]) 14 [.string ByteArray.empty,.int .u64 0] .nil) 
 15 [.pointer none] (nd (lf 16 [.pointer none]) 17 [.pointer none] .nil)) 18 [.pointer none] (nd (nd (lf 19 [.pointer none]) 20 [.nilIface] .nil) 21 [.int .i32 0] 
 (nd (lf 22 [.int .u64 0]) 23 [.int .u64 0] .nil)))) 24 [.bool false,.int .u64 0,.int .u64 0] (nd (nd (nd (nd (lf 25 [.bool false,.int .u64 0,.int .u64 0]) 26 
 [.slice none 0 0] .nil) 27 [.bool false,.int .u64 0,.slice none 0 0,.int .u64 0] (nd (lf 28 [.bool false,.int .u64 0,.slice none 0 0,.int .u64 0]) 29 [.nilFunc] 
 .nil)) 30 [.slice none 0 0] (nd (nd (lf 31 [.slice none 0 0]) 32 [.bool false,.int .u64 0,.slice none 0 0,.slice none 0 0,.int .u64 0] .nil) 33 [.bool false,
 .int .u64 0,.slice none 0 0,.slice none 0 0,.int .u64 0] (nd (lf 34 [.nilFunc]) 35 [.nilFunc] .nil))) 36 [.nilFunc] (nd (nd (nd (lf 37 [.nilFunc]) 38 [.nilFunc] 
 .nil) 39 [.nilFunc] (nd (lf 40 [.nilFunc]) 41 [.nilFunc] .nil)) 42 [.nilFunc] (nd (nd (lf 43 [.nilFunc]) 44 [.nilFunc] .nil) 45 [.nilFunc] (lf 46 [.nilFunc]))))) 
 47 [.nilFunc] (nd (nd (nd (nd (nd (lf 48 [.nilFunc]) 49 [.nilFunc] .nil) 50 [.nilFunc] (nd (lf 51 [.nilFunc]) 52 [.nilFunc] .nil)) 53 [.nilFunc] (nd (nd (lf 54 [.nilFunc]) 
 55 [.nilFunc] .nil) 56 [.nilFunc] (nd (lf 57 [.int .i64 0,.int .u64 0]) 58 [.int .i64 0,.int .u64 0] .nil))) 59 [.nilFunc] (nd (nd (nd (lf 60 [.nilFunc]) 61 [.nilFunc] 
 .nil) 62 [.nilFunc] (nd (lf 63 [.nilFunc]) 64 [.nilFunc] .nil)) 65 [.nilFunc] (nd (nd (lf 66 [.nilFunc]) 67 [.nilFunc] .nil) 68 [.int .u8 0] (nd (lf 69 [.nilFunc]) 
 70 [.nilFunc] .nil)))) 72 [.nilFunc] (nd (nd (nd (nd (lf 73 [.nilFunc]) 74 [.nilFunc] .nil) 75 [.nilFunc] (nd (lf 76 [.int .u64 0]) 77 [.int .u8 0] .nil)) 78 [.nilFunc] 
 (nd (nd (lf 79 [.nilFunc]) 80 [.nilFunc] .nil) 81 [.nilFunc] (nd (lf 82 [.nilFunc]) 83 [.nilFunc] .nil))) 84 [.nilFunc] (nd (nd (nd (lf 85 [.nilFunc]) 86 [.nilFunc] 
 .nil) 87 [.nilFunc] (nd (lf 88 [.nilFunc]) 89 [.nilFunc] .nil)) 90 [.nilFunc] (nd (nd (lf 91 [.nilFunc]) 92 [.nilFunc] .nil) 93 [.nilFunc] (lf 94 [.slice none 0 
 0])))))) 95 [.nilFunc] (nd (nd (nd (nd (nd (nd (lf 96 [.int .u8 0]) 98 [.nilFunc] .nil) 99 [.nilFunc] (nd (lf 100 [.slice none 0 0]) 101 [.nilFunc] .nil)) 102 [.nilFunc] 
 (nd (nd (lf 103 [.int .i64 0]) 105 [.nilFunc] .nil) 107 [.nilFunc] (nd (lf 108 [.nilFunc]) 109 [.nilFunc] .nil))) 110 [.nilFunc] (nd (nd (nd (lf 111 [.nilFunc]) 
 112 [.nilFunc] .nil) 113 [.pointer none] (nd (lf 114 [.slice none 0 0]) 115 [.nilFunc] .nil)) 116 [.int .u64 0,.int .u8 0,.bool false,.int .u64 0,.int .i64 0] 
 (nd (nd (lf 117 [.int .u64 0,.int .u8 0,.bool false,.int .u64 0,.int .i64 0]) 118 [.nilFunc] .nil) 119 [.nilFunc] (nd (lf 120 [.nilFunc]) 121 [.nilFunc] .nil)))) 
 122 [.nilFunc] (nd (nd (nd (nd (lf 124 [.nilFunc]) 125 [.slice none 0 0] .nil) 126 [.nilFunc] (nd (lf 127 [.nilFunc]) 128 [.nilFunc] .nil)) 129 [.nilFunc] (nd (nd 
 (lf 131 [.nilFunc]) 132 [.nilFunc] .nil) 133 [.nilFunc] (nd (lf 134 [.nilFunc]) 135 [.nilFunc] .nil))) 136 [.int .u64 0,.int .u64 0] (nd (nd (nd (lf 137 [.int .u64 
 0,.int .u64 0]) 138 [.nilFunc] .nil) 139 [.nilFunc] (nd (lf 140 [.int .i64 0]) 142 [.nilFunc] .nil)) 143 [.nilFunc] (nd (nd (lf 144 [.nilFunc]) 145 [.nilFunc] .nil) 
 146 [.nilFunc] (lf 147 [.int .u32 0]))))) 148 [.nilFunc] (nd (nd (nd (nd (nd (lf 149 [.nilFunc]) 151 [.nilFunc] .nil) 153 [.nilFunc] (nd (lf 154 [.nilFunc]) 155 
 [.slice none 0 0] .nil)) 156 [.nilFunc] (nd (nd (lf 157 [.nilFunc]) 158 [.nilFunc] .nil) 159 [.nilFunc] (nd (lf 160 [.slice none 0 0,.slice none 0 0,.int .i64 
 0,.bool false]) 161 [.slice none 0 0,.slice none 0 0,.int .i64 0,.bool false] .nil))) 162 [.nilFunc] (nd (nd (nd (lf 163 [.bool false,.int .u64 0,.int .u64 
 0,.int .i64 0,.bool false]) 164 [.bool false,.int .u64 0,.int .u64 0,.int .i64 0,.bool false] .nil) 165 [.nilFunc] (nd (lf 167 [.nilFunc]) 168 [.int .u64 0] 
 .nil)) 169 [.nilFunc] (nd (nd (lf 170 [.nilFunc]) 171 [.nilFunc] .nil) 172 [.pointer none] (nd (lf 173 [.nilFunc]) 174 [.nilFunc] .nil)))) 176 [.nilFunc] (nd (nd 
 (nd (nd (lf 177 [.nilFunc]) 178 [.pointer none] .nil) 180 [.nilFunc] (nd (lf 181 [.nilFunc]) 183 [.nilFunc] .nil)) 184 [.nilFunc] (nd (nd (lf 185 [.nilFunc]) 186 
 [.nilFunc] .nil) 187 [.pointer none,.pointer none,.pointer none,.string ByteArray.empty] (nd (lf 188 [.pointer none,.pointer none,.pointer none,.string ByteArray.empty]) 
 189 [] .nil))) 190 [] (nd (nd (nd (lf 191 []) 192 [.int .u8 0] .nil) 193 [.int .u8 0] (nd (lf 194 [.nilFunc]) 195 [.pointer none] .nil)) 196 [.int .i32 0] (nd (nd 
 (lf 197 [.int .i32 0]) 198 [.int .u64 0,.int .u64 0,.int .u32 0,.int .u8 0,.int .u8 0,.int .u8 0,.int .u8 0,.nilFunc,.pointer none,.int .i32 0,.int .i32 
 0] .nil) 199 [.int .u64 0,.int .u64 0,.int .u32 0,.int .u8 0,.int .u8 0,.int .u8 0,.int .u8 0,.nilFunc,.pointer none,.int .i32 0,.int .i32 0] (lf 200 [.pointer 
 none]))))))) 
def zsB:Bt (List (Option (Nat×Nat))):=(nd (nd (nd (lf 26 [some (58,2)]) 27 [none,none,some (58,2),none] (lf 28 [none,none,some (58,2),none])) 30 [some (3,1)] (nd (lf 31 [some (23,1)]) 32 [none,
 none,some (3,1),some (23,1),none] (lf 33 [none,none,some (3,1),some (23,1),none]))) 94 [some (25,3)] (nd (nd (lf 100 [some (28,4)]) 114 [some (113,
 1)] (lf 125 [some (4,1)])) 155 [some (22,1)] (nd (lf 160 [some (4,1),some (4,1),none,none]) 161 [some (4,1),some (4,1),none,none] .nil))) 
def qEz:Bt (List Nat):=(nd (nd (nd (nd (nd (nd (nd (lf 6 [0,1,2,3,4,6,7,8,9,12,22]) 8 [0,1,2,3,21] .nil) 9 [0,1,2,3,4,16] (nd (lf 10 [0,1,2,3,4,5,33,38,66]) 
 11 [0,2] .nil)) 13 [0,1,2,4,5,6,23,43] (nd (nd (lf 15 [0,1,2,4,12]) 17 [0,1,2,3,5,8,17,18,19,20] .nil) 19 [0,1,2,3,6] (lf 21 [0,1,2,3,
 5,8,11,12,13,14]))) 23 [0,1,2,3,5,7,23,24,25,26,43] (nd (nd (nd (lf 24 [0,1,2,3,5,40,45,89]) 25 [0,1,2,3,4,5,6,10] .nil) 27 [0,1,2,
 3,4] (lf 28 [0,1,2,3,4,5,6,7,8,9,10,14,56])) 30 [0,1,2,3,4,5,9] (nd (nd (lf 31 [0,1,2,3,4,5,6,7,8,9,10,11,13,14,15,26,40,63,
 73,104]) 32 [0,1,2,4,5,6,7,8,10,13,34,35,36,37,43] .nil) 33 [0,1,2,4,5,6,7,8,9,10,15,26,33,62,67] (lf 34 [0,1,4])))) 35 [0] (nd (nd 
 (nd (nd (lf 36 [0,1,2,9,13,29]) 37 [0,1,2,3,4,5,25,43,69] .nil) 38 [0,2,3,5,7,8,9,10,28,31] (nd (lf 39 [0,2,3]) 40 [0] .nil)) 41 [0,1,4] 
 (nd (nd (lf 42 [0,2]) 43 [0,1,2,6,7] .nil) 44 [0,2,4] (lf 46 [0,2,3]))) 47 [0] (nd (nd (nd (lf 48 [0,1,2,6,7]) 49 [0,1,2,6,7] .nil) 50 [0,2] (lf 
 51 [0,1,4,5,6,7,15,22,25])) 52 [0,2] (nd (nd (lf 53 [0,2,4]) 54 [0,2] .nil) 55 [0,2,4] (lf 56 [0,1,2,3,7]))))) 57 [0,2] (nd (nd (nd (nd (nd (lf 
 59 [0,2,3]) 60 [0,2] .nil) 61 [0,2,4,5,17,19,25,27] (nd (lf 62 [0,1,2,6]) 63 [0,1,2,6,7,8,9,10,18,35,65] .nil)) 64 [0,1,2,5,6,10] (nd 
 (nd (lf 65 [0,1,2,3,4,5,6,7,19,32,68]) 66 [0,1,4] .nil) 67 [0,1,2,4,5,10,19] (lf 68 [0,1,2]))) 69 [0,1,2,6,7] (nd (nd (nd (lf 70 [0,1,2,
 3,6,7,9]) 71 [0,1,2,3,4,5,8,9,10] .nil) 72 [0,1,4] (lf 74 [0,1,4,5,19])) 75 [0,1,4,5,6] (nd (nd (lf 76 [0,1,2,3,4,5]) 77 [0,1,2,3,4,
 5,6,17] .nil) 78 [0,1] (lf 79 [0,1,2,3,4,5])))) 80 [0,1,4,5,6,7,13,18,22] (nd (nd (nd (nd (lf 81 [0,1,4]) 82 [0,1,2,3,4] .nil) 83 [0,1,4,
 5,6,11,12,13,16,19] (lf 84 [0,1,3,4])) 85 [0,1,2,4,26,30,31,32,33,40] (nd (nd (lf 86 [0]) 87 [0] .nil) 88 [0,1,4,5,6,7,12,19,29] (lf 89 
 [0,1,2]))) 90 [0,1,4] (nd (nd (nd (lf 91 [0,1,2]) 92 [0,2,4] .nil) 93 [0] (lf 94 [0,2])) 95 [0,2,4,5,12,19,22,29] (nd (nd (lf 96 [0,1,4,5,7,
 10,15,16,17,18,22,27]) 97 [0,1,4] .nil) 98 [0,1,2,6,7,8,9,14,19,38,43,48,65,77,82,105] (lf 99 [0,2])))))) 101 [0,1,2,6,7,8,9,10,11,
 12,13,14,15,16,22,35,37,40,53,56,79,86,113,118] (nd (nd (nd (nd (nd (nd (lf 102 [0,1,2,6,7,8,9,10,11,12,18,32,43]) 103 [0,2,3,4,5,
 6,18] .nil) 104 [0,1,4] (nd (lf 105 [0,1,2]) 106 [0,1,4,5,7,8,9,10,11] .nil)) 107 [0,1,2,6,7,8,18,24] (nd (nd (lf 108 [0,2,3,4,5]) 109 [0,
 1,2,6,7,8,9,10,20,25,37] .nil) 110 [0,1,4] (lf 111 [0,1,2,5,7]))) 112 [0,1,4,5,6,7,24] (nd (nd (nd (lf 113 [0,1,2,6,7,8,9,13,30,35,
 54]) 114 [0,2,3,9] .nil) 115 [0,1,2,3,4,10,11,12,13,14,15,16,17,18,19,20,25,32,39,56,75,80,97,125] (lf 116 [0,2])) 117 [0,2] (nd (nd 
 (lf 118 [0,1,3,4,5,7,8,9,16]) 119 [0,1,4,5,6] .nil) 120 [0,1,4,5,7,8,9,16] (lf 121 [0,2,3,4])))) 122 [0] (nd (nd (nd (nd (lf 123 [0,2,3,
 4]) 124 [0,1,2,3,4,6] .nil) 125 [0,1] (nd (lf 126 [0,2,3]) 127 [0,1,2,3,4,6,7,8,9,10,11,33,48,52] .nil)) 128 [0,1,4] (nd (nd (lf 129 [0,2]) 
 130 [0,2,3,5,6,7,17,23] .nil) 131 [0,1,4,5,6,9] (lf 132 [0,2,3]))) 133 [0,1,4,5,6,7,8,9,22] (nd (nd (nd (lf 134 [0,1,4,5,6,7,15,26,
 27]) 135 [0,1,2,6,7,8,9,10,11,12,15] .nil) 136 [0,2,3,15] (lf 137 [0,2])) 138 [0,1,2,3,4,10,11,12,16] (nd (nd (lf 139 [0,2]) 140 [0,1,4,
 5,6,10,16] .nil) 141 [0,1,4,5,7,8,9,16] (lf 142 [0,1,2,3,4,6,10,11,12,13,18]))))) 143 [0,1,4,5,6] (nd (nd (nd (nd (nd (lf 144 [0,1,2,3,
 8,9,14,34]) 145 [0,1,2,3,4,10,11,12,13,14,15,16,17,18,19,20,21,22,23,24,28,33,50,58,80,85,103,110,140,151,171,185,199,213] .nil) 
 146 [0,1,2,3,8,9,10,11,12,21,33] (nd (lf 147 [0,1,2,8,9,10,11,12,17,35,45]) 148 [0,1,2,3,8,9,10,11,12,13,14,34,36,55,57,60] .nil)) 
 149 [0,1,2,8,9,15] (nd (nd (lf 150 [0,1,2,3,8,9,10,11,12,16,36,41,45,65,69,84,104,109,124]) 151 [0,1,2,3,4,10,11,12,47,65,70] .nil) 
 152 [0,1,2,3,4,10,11,12,13,47,66,71,120,139,144] (lf 153 [0,2,4,8]))) 154 [0,2,4,8,14] (nd (nd (nd (lf 155 [0,2,3,5,6,14,15,21]) 156 
 [0,1,2,4,6,14,17] .nil) 157 [0,1,2,4,5,6,8,22,26] (lf 158 [0,1,2,3,4,5,6,7,8])) 159 [0,1,2,3,4,5,6,7,8] (nd (nd (lf 160 [0,2,3,4,
 5,9,13]) 161 [0,1,4] .nil) 162 [0,1,2,6,7,13] (lf 163 [0,1,4,13])))) 164 [0,1,2,4,6,7,8,9,10,16,21,28] (nd (nd (nd (nd (lf 165 [0,1,2,5]) 
 166 [0,1,2,4,5,6,7,8,9,10,11,12,13,14,15,16,36,71,75,81,90,95,100] .nil) 167 [0,1,4,5,6,7,8,9,10,11,12,13] (lf 168 [0,1,2,3,
 4,10,11,20,23])) 169 [0,1,2,3,4,10,11,18,40,58] (nd (nd (lf 170 [0,2]) 171 [0,2] .nil) 172 [0,1,2,3,8] (lf 173 [0,1,2,3,4,5,12]))) 176 [0,
 1,2,4,5,6,7,8,9,10,11,12,13,14,15,16,32,38,42,46,53,85,89,94] (nd (nd (nd (lf 177 [0,1,2,3,4,5,10,11,19]) 178 [0,1,2,4,5,6,12] 
 .nil) 179 [0,1,2,3,10,13] (lf 180 [0,1,2,3,4,10,11,22])) 181 [0,1,2,3,4,5,6,7,10,26] (nd (nd (lf 182 [0,2,3,4,5,12]) 183 [0,1,2,3,6,
 7,8,9,10,39] .nil) 184 [0,1,2,4] (lf 185 [0,1,2,4]))))))) 
def dmB:Bt (Nat):=(nd (nd (nd (nd (nd (nd (lf 6150 6) 6151 6 .nil) 8198 92 (nd (lf 9221 9) 9222 9 .nil)) 10246 24 (nd (nd (lf 13317 9) 15364 4 .nil) 17411 7 (nd (lf 17415 9) 19460 
 8 .nil))) 24584 37 (nd (nd (nd (lf 25603 12) 25605 7 .nil) 27649 3 (nd (lf 28675 3) 28676 23 .nil)) 28682 7 (nd (nd (lf 30725 5) 31749 9 .nil) 31754 6 (lf 31759 
 8)))) 32783 5 (nd (nd (nd (nd (lf 33804 17) 33808 8 .nil) 33809 8 (nd (lf 33810 8) 37890 8 .nil)) 37896 8 (nd (nd (lf 37897 8) 38918 11 .nil) 64517 20 (lf 64518 
 16))) 64519 12 (nd (nd (nd (lf 64520 12) 64521 12 .nil) 65541 4 (nd (lf 66568 22) 66571 16 .nil)) 71683 4 (nd (nd (lf 72707 4) 78853 14 .nil) 80897 11 (lf 87041 
 20))))) 111625 15 (nd (nd (nd (nd (nd (lf 113666 4) 117777 13 .nil) 120836 5 (nd (lf 130050 15) 147460 14 .nil)) 147462 6977 (nd (nd (lf 148485 9) 148491 6977 .nil) 
 148497 9 (nd (lf 148503 6977) 148515 11 .nil))) 149514 7107 (nd (nd (nd (lf 150538 7107) 152579 6847 .nil) 153605 14 (nd (lf 153611 6977) 153616 10 .nil)) 153617 
 6977 (nd (nd (lf 153622 10) 153623 6977 .nil) 154625 6847 (lf 154627 13)))) 154629 13 (nd (nd (nd (nd (lf 154632 6847) 155649 6847 .nil) 155651 13 (nd (lf 155653 
 13) 155656 6847 .nil)) 155658 6847 (nd (nd (lf 155661 13) 155663 13 .nil) 155666 6847 (lf 155669 6847))) 159752 14 (nd (nd (nd (lf 160778 25) 169987 7 .nil) 173059 
 19 (nd (lf 173061 13) 173062 7367 .nil)) 175105 7 (nd (nd (lf 175106 7) 175107 7 .nil) 183299 7367 (lf 184321 9)))))) 
def qmr:Bt (Func):=(nd (nd (nd (nd (nd (nd (nd (lf 6 Tryz.f6) 8 Tryz.f8 .nil) 9 Tryz.f9 (nd (lf 10 Tryz.f10) 11 Tryz.f11 .nil)) 13 Tryz.f13 (nd (nd (lf 15 Tryz.f15) 17 Tryz.f17 .nil) 
 19 Tryz.f19 (lf 21 Tryz.f21))) 23 Tryz.f23 (nd (nd (nd (lf 24 Tryz.f24) 25 Tryz.f25 .nil) 27 Tryz.f27 (lf 28 Tryz.f28)) 30 Tryz.f30 (nd (nd (lf 31 Tryz.f31) 32 Tryz.f32 
 .nil) 33 Tryz.f33 (lf 34 Tryz.f34)))) 35 Tryz.f35 (nd (nd (nd (nd (lf 36 Tryz.f36) 37 Tryz.f37 .nil) 38 Tryz.f38 (nd (lf 39 Tryz.f39) 40 Tryz.f40 .nil)) 41 Tryz.f41 
 (nd (nd (lf 42 Tryz.f42) 43 Tryz.f43 .nil) 44 Tryz.f44 (lf 46 Tryz.f46))) 47 Tryz.f47 (nd (nd (nd (lf 48 Tryz.f48) 49 Tryz.f49 .nil) 50 Tryz.f50 (lf 51 Tryz.f51)) 
 52 Tryz.f52 (nd (nd (lf 53 Tryz.f53) 54 Tryz.f54 .nil) 55 Tryz.f55 (lf 56 Tryz.f56))))) 57 Tryz.f57 (nd (nd (nd (nd (nd (lf 59 Tryz.f59) 60 Tryz.f60 .nil) 61 Tryz.f61 
 (nd (lf 62 Tryz.f62) 63 Tryz.f63 .nil)) 64 Tryz.f64 (nd (nd (lf 65 Tryz.f65) 66 Tryz.f66 .nil) 67 Tryz.f67 (lf 68 Tryz.f68))) 69 Tryz.f69 (nd (nd (nd (lf 70 Tryz.f70) 
 71 Tryz.f71 .nil) 72 Tryz.f72 (lf 74 Tryz.f74)) 75 Tryz.f75 (nd (nd (lf 76 Tryz.f76) 77 Tryz.f77 .nil) 78 Tryz.f78 (lf 79 Tryz.f79)))) 80 Tryz.f80 (nd (nd (nd (nd 
 (lf 81 Tryz.f81) 82 Tryz.f82 .nil) 83 Tryz.f83 (lf 84 Tryz.f84)) 85 Tryz.f85 (nd (nd (lf 86 Tryz.f86) 87 Tryz.f87 .nil) 88 Tryz.f88 (lf 89 Tryz.f89))) 90 Tryz.f90 
 (nd (nd (nd (lf 91 Tryz.f91) 92 Tryz.f92 .nil) 93 Tryz.f93 (lf 94 Tryz.f94)) 95 Tryz.f95 (nd (nd (lf 96 Tryz.f96) 97 Tryz.f97 .nil) 98 Tryz.f98 (lf 99 Tryz.f99)))))) 
 101 Tryz.f101 (nd (nd (nd (nd (nd (nd (lf 102 Tryz.f102) 103 Tryz.f103 .nil) 104 Tryz.f104 (nd (lf 105 Tryz.f105) 106 Tryz.f106 .nil)) 107 Tryz.f107 (nd (nd (lf 
 108 Tryz.f108) 109 Tryz.f109 .nil) 110 Tryz.f110 (lf 111 Tryz.f111))) 112 Tryz.f112 (nd (nd (nd (lf 113 Tryz.f113) 114 Tryz.f114 .nil) 115 Tryz.f115 (lf 116 Tryz.f116)) 
 117 Tryz.f117 (nd (nd (lf 118 Tryz.f118) 119 Tryz.f119 .nil) 120 Tryz.f120 (lf 121 Tryz.f121)))) 122 Tryz.f122 (nd (nd (nd (nd (lf 123 Tryz.f123) 124 Tryz.f124 .nil) 
 125 Tryz.f125 (nd (lf 126 Tryz.f126) 127 Tryz.f127 .nil)) 128 Tryz.f128 (nd (nd (lf 129 Tryz.f129) 130 Tryz.f130 .nil) 131 Tryz.f131 (lf 132 Tryz.f132))) 133 Tryz.f133 
 (nd (nd (nd (lf 134 Tryz.f134) 135 Tryz.f135 .nil) 136 Tryz.f136 (lf 137 Tryz.f137)) 138 Tryz.f138 (nd (nd (lf 139 Tryz.f139) 140 Tryz.f140 .nil) 141 Tryz.f141 (lf 
 142 Tryz.f142))))) 143 Tryz.f143 (nd (nd (nd (nd (nd (lf 144 Tryz.f144) 145 Tryz.f145 .nil) 146 Tryz.f146 (nd (lf 147 Tryz.f147) 148 Tryz.f148 .nil)) 149 Tryz.f149 
 (nd (nd (lf 150 Tryz.f150) 151 Tryz.f151 .nil) 152 Tryz.f152 (lf 153 Tryz.f153))) 154 Tryz.f154 (nd (nd (nd (lf 155 Tryz.f155) 156 Tryz.f156 .nil) 157 Tryz.f157 
 (lf 158 Tryz.f158)) 159 Tryz.f159 (nd (nd (lf 160 Tryz.f160) 161 Tryz.f161 .nil) 162 Tryz.f162 (lf 163 Tryz.f163)))) 164 Tryz.f164 (nd (nd (nd (nd (lf 165 Tryz.f165) 
 166 Tryz.f166 .nil) 167 Tryz.f167 (lf 168 Tryz.f168)) 169 Tryz.f169 (nd (nd (lf 170 Tryz.f170) 171 Tryz.f171 .nil) 172 Tryz.f172 (lf 173 Tryz.f173))) 176 Tryz.f176 
 (nd (nd (nd (lf 177 Tryz.f177) 178 Tryz.f178 .nil) 179 Tryz.f179 (lf 180 Tryz.f180)) 181 Tryz.f181 (nd (nd (lf 182 Tryz.f182) 183 Tryz.f183 .nil) 184 Tryz.f184 (lf 
 185 Tryz.f185))))))) 
def mdB:Bt (Nat):=(nd (nd (nd (nd (lf 36 4) 63 2 .nil) 64 2 (nd (lf 70 2) 71 2 .nil)) 76 1 (nd (nd (lf 78 3) 81 5 .nil) 84 3 (lf 88 4))) 111 2 (nd (nd (nd (lf 113 3) 115 3 .nil) 118 
 3 (lf 120 3)) 141 3 (nd (nd (lf 144 3) 145 3 .nil) 168 3 (lf 179 3)))) 
def qCQ:Bt (Unit):=(nd (nd (nd (nd (nd (nd (nd (lf 0 ()) 1 () (lf 2 ())) 3 () (nd (lf 4 ()) 5 () .nil)) 6 () (nd (nd (lf 7 ()) 8 () .nil) 9 () (nd (lf 10 ()) 11 () .nil))) 12 () (nd 
 (nd (nd (lf 13 ()) 14 () (lf 15 ())) 16 () (nd (lf 17 ()) 18 () .nil)) 19 () (nd (nd (lf 20 ()) 21 () .nil) 22 () (nd (lf 23 ()) 24 () .nil)))) 25 () (nd (nd (nd 
 (nd (lf 26 ()) 27 () (lf 28 ())) 29 () (nd (lf 30 ()) 31 () .nil)) 32 () (nd (nd (lf 33 ()) 34 () .nil) 35 () (nd (lf 36 ()) 37 () .nil))) 38 () (nd (nd (nd (lf 
 39 ()) 40 () .nil) 41 () (nd (lf 42 ()) 43 () .nil)) 44 () (nd (nd (lf 45 ()) 46 () .nil) 47 () (nd (lf 48 ()) 49 () .nil))))) 50 () (nd (nd (nd (nd (nd (lf 51 ()) 
 52 () (lf 53 ())) 54 () (nd (lf 55 ()) 56 () .nil)) 57 () (nd (nd (lf 58 ()) 59 () .nil) 60 () (nd (lf 61 ()) 62 () .nil))) 63 () (nd (nd (nd (lf 64 ()) 65 () .nil) 
 66 () (nd (lf 67 ()) 68 () .nil)) 69 () (nd (nd (lf 70 ()) 71 () .nil) 72 () (nd (lf 73 ()) 74 () .nil)))) 75 () (nd (nd (nd (nd (lf 76 ()) 77 () (lf 78 ())) 79 
 () (nd (lf 80 ()) 81 () .nil)) 82 () (nd (nd (lf 83 ()) 84 () .nil) 85 () (nd (lf 86 ()) 87 () .nil))) 88 () (nd (nd (nd (lf 89 ()) 90 () .nil) 91 () (nd (lf 92 
 ()) 93 () .nil)) 94 () (nd (nd (lf 95 ()) 96 () .nil) 97 () (nd (lf 98 ()) 99 () .nil)))))) 100 () (nd (nd (nd (nd (nd (nd (lf 101 ()) 102 () (lf 103 ())) 104 () 
 (nd (lf 105 ()) 106 () .nil)) 107 () (nd (nd (lf 108 ()) 109 () .nil) 110 () (nd (lf 111 ()) 112 () .nil))) 113 () (nd (nd (nd (lf 114 ()) 115 () (lf 116 ())) 117 
 () (nd (lf 118 ()) 119 () .nil)) 120 () (nd (nd (lf 121 ()) 122 () .nil) 123 () (nd (lf 124 ()) 125 () .nil)))) 126 () (nd (nd (nd (nd (lf 127 ()) 128 () (lf 129 
 ())) 130 () (nd (lf 131 ()) 132 () .nil)) 133 () (nd (nd (lf 134 ()) 135 () .nil) 136 () (nd (lf 137 ()) 138 () .nil))) 139 () (nd (nd (nd (lf 140 ()) 141 () .nil) 
 142 () (nd (lf 143 ()) 144 () .nil)) 145 () (nd (nd (lf 146 ()) 147 () .nil) 148 () (nd (lf 149 ()) 150 () .nil))))) 151 () (nd (nd (nd (nd (nd (lf 152 ()) 153 () 
 (lf 154 ())) 155 () (nd (lf 156 ()) 157 () .nil)) 158 () (nd (nd (lf 159 ()) 160 () .nil) 161 () (nd (lf 162 ()) 163 () .nil))) 164 () (nd (nd (nd (lf 165 ()) 166 
 () .nil) 167 () (nd (lf 168 ()) 169 () .nil)) 170 () (nd (nd (lf 171 ()) 172 () .nil) 173 () (nd (lf 174 ()) 175 () .nil)))) 176 () (nd (nd (nd (nd (lf 177 ()) 178 
 () (lf 179 ())) 180 () (nd (lf 181 ()) 182 () .nil)) 183 () (nd (nd (lf 184 ()) 185 () .nil) 186 () (nd (lf 187 ()) 188 () .nil))) 189 () (nd (nd (nd (lf 190 ()) 
 191 () .nil) 192 () (nd (lf 193 ()) 194 () .nil)) 195 () (nd (nd (lf 196 ()) 197 () .nil) 198 () (nd (lf 199 ()) 200 () .nil))))))) 
def goB:Bt (Unit):=(nd (nd (nd (nd (nd (nd (nd (lf 6 ()) 8 () .nil) 9 () (nd (lf 10 ()) 11 () .nil)) 13 () (nd (nd (lf 15 ()) 17 () .nil) 19 () (lf 21 ()))) 23 () (nd (nd (nd (lf 24 
 ()) 25 () .nil) 27 () (lf 28 ())) 30 () (nd (nd (lf 31 ()) 32 () .nil) 33 () (lf 34 ())))) 35 () (nd (nd (nd (nd (lf 36 ()) 37 () .nil) 38 () (nd (lf 39 ()) 40 () 
 .nil)) 41 () (nd (nd (lf 42 ()) 43 () .nil) 44 () (lf 46 ()))) 47 () (nd (nd (nd (lf 48 ()) 49 () .nil) 50 () (lf 51 ())) 52 () (nd (nd (lf 53 ()) 54 () .nil) 55 
 () (lf 56 ()))))) 57 () (nd (nd (nd (nd (nd (lf 59 ()) 60 () .nil) 61 () (nd (lf 62 ()) 63 () .nil)) 64 () (nd (nd (lf 65 ()) 66 () .nil) 67 () (lf 68 ()))) 69 () 
 (nd (nd (nd (lf 70 ()) 71 () .nil) 72 () (lf 74 ())) 75 () (nd (nd (lf 76 ()) 77 () .nil) 78 () (lf 79 ())))) 80 () (nd (nd (nd (nd (lf 81 ()) 82 () .nil) 83 () 
 (lf 84 ())) 85 () (nd (nd (lf 86 ()) 87 () .nil) 88 () (lf 89 ()))) 90 () (nd (nd (nd (lf 91 ()) 92 () .nil) 93 () (lf 94 ())) 95 () (nd (nd (lf 96 ()) 97 () .nil) 
 98 () (lf 99 ())))))) 101 () (nd (nd (nd (nd (nd (nd (lf 102 ()) 103 () .nil) 104 () (nd (lf 105 ()) 106 () .nil)) 107 () (nd (nd (lf 108 ()) 109 () .nil) 110 () 
 (lf 111 ()))) 112 () (nd (nd (nd (lf 113 ()) 114 () .nil) 115 () (lf 116 ())) 117 () (nd (nd (lf 118 ()) 119 () .nil) 120 () (lf 121 ())))) 122 () (nd (nd (nd (nd 
 (lf 123 ()) 124 () .nil) 125 () (nd (lf 126 ()) 127 () .nil)) 128 () (nd (nd (lf 129 ()) 130 () .nil) 131 () (lf 132 ()))) 133 () (nd (nd (nd (lf 134 ()) 135 () 
 .nil) 136 () (lf 137 ())) 138 () (nd (nd (lf 139 ()) 140 () .nil) 141 () (lf 142 ()))))) 143 () (nd (nd (nd (nd (nd (lf 144 ()) 145 () .nil) 146 () (nd (lf 147 ()) 
 148 () .nil)) 149 () (nd (nd (lf 150 ()) 151 () .nil) 152 () (lf 153 ()))) 154 () (nd (nd (nd (lf 155 ()) 156 () .nil) 157 () (lf 158 ())) 159 () (nd (nd (lf 160 
 ()) 161 () .nil) 162 () (lf 163 ())))) 164 () (nd (nd (nd (nd (lf 165 ()) 166 () .nil) 167 () (lf 168 ())) 169 () (nd (nd (lf 170 ()) 171 () .nil) 172 () (lf 173 
 ()))) 176 () (nd (nd (nd (lf 177 ()) 178 () .nil) 179 () (lf 180 ())) 181 () (nd (nd (lf 182 ()) 183 () .nil) 184 () (lf 185 ()))))))) 
def jnB:Bt (Unit):=(nd (lf 166 ()) 176 () .nil) 
def ozB:Bt (Unit):=(lf 32 ()) 
def bzB:Bt (Unit):=(nd (nd (nd (lf 9 ()) 11 () (lf 13 ())) 17 () (nd (lf 18 ()) 25 () (lf 26 ()))) 28 () (nd (nd (lf 29 ()) 30 () (lf 31 ())) 32 () (nd (lf 33 ()) 37 () .nil))) 
def fbB:Bt (Unit):=.nil 
def nzB:Bt (Nat):=(lf 140 4) 
def lvB:Bt (List Nat):=(nd (nd (nd (nd (nd (lf 9 [1,2,3,4]) 10 [2,3,5,54,55,56,57,58,59,60,61,62,63,64,65] .nil) 17 [2,3,17,18,19] (nd (lf 21 [1,3,11,12,13]) 23 
 [1,3,23,24,25,34,35,36,39,40,41,42,51,52,53,56,57,58,61,62,63,64] .nil)) 24 [1,3,55,56,57,58,59,60,61,62,63,64,65,66,67,68,69,
 70,73,74,75,76,77,78,79,82,83,84,85,86,87,88] (nd (nd (lf 31 [4,5,6,7,8,58,59,60,61,62]) 32 [2,4,7,8,34,35,36] .nil) 33 [1,4,5,6,
 7,8,9,55,56,57,58,59,60,61] (nd (lf 37 [1,2,3,4,5,30,31,32,33,34,35,67,68]) 38 [2,3,7,8,9] .nil))) 63 [0,1,2,7,15,16,17,40,41,42,
 43,44,45,46,47,48,49,50,51,52,53,70,71,72,73,74,75,76,77,78] (nd (nd (nd (lf 65 [2,3,5,6,7,14,15,16,17,18,39,40,41,42,43,44,45,
 46,47,48,49,50,51,52,53,54,55,56,75,76,77,78,79,80,81,82,83,84,85]) 67 [1,2,5] .nil) 77 [2,3,5,6] (nd (lf 85 [1,2,30,31,32]) 88 [0,
 1,5,6] .nil)) 96 [1,5,15,16,17] (nd (nd (lf 106 [0,5,8,9,10]) 113 [0,1,2,6,7,8] .nil) 115 [0,1,2,3,4,10,11,70,73,74,84,85,86,87,88,
 89,90,91,92,93,94,95,96] (nd (lf 118 [0,3,7,8]) 120 [0,1,7,8] .nil)))) 131 [0,1,5,6] (nd (nd (nd (nd (lf 133 [0,1,5,6,7,15,16,17,18,21,
 41,44,45,46,47,50,51,52,53]) 134 [0,1,5] .nil) 135 [0,1,2,8,9,10,35,36,37,38,41,42,43,44,45,46,47] (nd (lf 136 [0,3,9,10,11,12,13,
 14]) 140 [0,1,5,6] .nil)) 141 [0,1,7,8] (nd (nd (lf 144 [0,1,2,3,8,9,22,23,24,25,26,27,28,29,30,31,32,33]) 145 [0,1,2,3,4,10,11,13,
 14,15,17,18,19,20,21,22,182,183,184,196,197,198,210,211,212] .nil) 146 [0,3,8,9,10,11,12] (nd (lf 147 [0,1,8,9,10,11]) 149 [0,8,9] .nil))) 
 150 [0,1,2,3,9,10,11,12,23,24,25,26,27,28,29,30,31,32,33,34,35] (nd (nd (nd (lf 151 [0,1,4,11,12,35,36,37,38,39,40,41,42,43,44,
 45,46,54,55,56,57,58,59,60,61,62,63,64]) 152 [0,1,4,12,13,36,37,38,39,40,41,42,43,44,45,46,54,55,56,57,58,59,60,61,62,63,64,
 65,109,110,111,112,113,114,115,116,117,118,119,127,128,129,130,131,132,133,134,135,136,137,138] .nil) 156 [1,2,4] (nd (lf 157 [1,2,4,
 6,13,14,15,46,47,48,49,50,51]) 160 [0,3,4,5] .nil)) 166 [1,2,6,7,8,9,10,13,14,15,89] (nd (nd (lf 168 [0,2,4,10,11]) 169 [0,2,3,4,10,
 24,25,26,27,28,29,30,31,32,33,34,35,36,37,38,39] .nil) 176 [1,2,6,7,10,11,12,13,14,73,74,75,76,77,78,79,84] (nd (lf 179 [0,1,2,
 3,10]) 181 [1,3,4] .nil))))) 
def rjB:Bt (List Nat):=.nil 
def bts:Bts:=⟨tyB,kdB,foB,elB,zeB,zsB,qCQ,fun _=>none,qEz,dmB,mdB,qmr,goB,jnB,ozB,bzB,fbB,nzB,lvB,rjB,([(174,0),(175,1)]:List (Nat×Nat))⟩
theorem k_ty:tyB.mp (fun k _=>Ty Tryz.prog k)=tyB.mp fun _ v=>some v:=by kernel_rfl
theorem k_kd:kdB.mp (fun k v=>qph Tryz.prog k v)=kdB.mp fun _ v=>some v:=by kernel_rfl
theorem k_fo:foB.mp (fun k _=>Fo Tryz.prog (k / 64) (k % 64))=foB.mp fun _ v=>some v:=by kernel_rfl
theorem k_al:foB.mp (fun k _=>qi6 Tryz.prog (k / 64))=foB.mp fun _ _=>true:=by kernel_rfl
theorem k_el:elB.mp (fun k _=>El Tryz.prog k)=elB.mp fun _ v=>some v:=by kernel_rfl
theorem k_ze:zeB.mp (fun k _=>Ze Tryz.prog k)=zeB.mp fun _ v=>some v:=by kernel_rfl
theorem k_zc:zeB.mp (fun _ v=>v.all qcy)=zeB.mp fun _ _=>true:=by kernel_rfl
theorem qEA:qCQ.mp (fun k _=>Nat.ble (Tryz.prog.bytesOf k) 256)=qCQ.mp fun _ _=>true:=by kernel_rfl
theorem qEB:qmr.mp (fun k _=>Tryz.prog.funcs[k]?)=qmr.mp fun _ v=>some v:=by kernel_rfl
theorem k_gf:qmr.mp (fun k _=>(goB.get k).isSome)=qmr.mp fun _ _=>true:=by kernel_rfl
theorem k_go:goB.mp (fun k _=>qi3 Tryz.prog k)=goB.mp fun _ _=>true:=by kernel_rfl
theorem k_mo:Tryz.prog.follows .mixedOrders=true:=by kernel_rfl
theorem k_ex:∀p∈([(174,0),(175,1)]:List (Nat×Nat)),qeZ Tryz.prog p.1 p.2:=(qnh ⟨Tryz.f174,by kernel_rfl,by kernel_rfl,by kernel_rfl,by kernel_rfl,by kernel_rfl⟩ (qnh ⟨Tryz.f175,by kernel_rfl,by kernel_rfl,by kernel_rfl,by kernel_rfl,by kernel_rfl⟩ qBb))
theorem QN:BtsOK Tryz.prog bts:=⟨k_ty,k_kd,k_fo,k_al,k_el,k_ze,k_zc,qEA,qEB,k_gf,k_go,k_mo,k_ex⟩
theorem qx:qmr.mp (fun f fn=>match fn.body with | some c=>okC fn.ntmps bts.tbl f c | none=>true)=qmr.mp fun _ _=>true:=by kernel_rfl
noncomputable abbrev tb:Tbl:=bts.tbl
end
end Su
