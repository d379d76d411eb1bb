/- Part 3 of what the statements of this seat need: a logic of states for the code of the model, the functions that they reach, and what these are held to do: no condition. -/
import Derived.Test.YteahjgigkbkcdaaDoorProg
import Derived.Test.YteahjgigkbkcdaaDoorS01
import Derived.Test.YteahjgigkbkcdaaDoorS02

/- The seat's type tables, for the S-logic; and the one table that never turns. -/
namespace Go.SL.S
def sgL : List Int := [8317987319222330741, 7237128888997146477, 7816392313619706465, 8387220255154660723]
end Go.SL.S
namespace Go.SL.A
open Go Go.SL
instance gtab : GTab := ⟨fun g => bif Nat.beq g 0 then some ⟨.arr 4 (.int .u64), S.sgL⟩ else none⟩

def tyT (t : TypeId) : Option Ty := match Nat.blt t 240 with
  | true => (match Nat.blt t 120 with | true => (match Nat.blt t 60 with | true => (match Nat.blt t 30 with | true => (match Nat.blt t 15 with | true => (match Nat.blt t 7 with | true => (match Nat.blt t 3 with | true => (match Nat.blt t 1 with | true => none | false => (match Nat.blt t 2 with | true => some (.ref .func) | false => some (.int .i64))) | false => (match Nat.blt t 5 with | true => (match Nat.blt t 4 with | true => some (.int .i64) | false => some .bool) | false => (match Nat.blt t 6 with | true => some (.int .u8) | false => some (.int .u8)))) | false => (match Nat.blt t 11 with | true => (match Nat.blt t 9 with | true => (match Nat.blt t 8 with | true => some (.cons (.int .i64) (.cons (.int .i64) (.cons .bool (.last (.int .u8))))) | false => some (.cons (.int .i64) (.cons (.int .i64) (.cons .bool (.last (.int .u8)))))) | false => (match Nat.blt t 10 with | true => some .str | false => some .str)) | false => (match Nat.blt t 13 with | true => (match Nat.blt t 12 with | true => some .str | false => some (.int .u64)) | false => (match Nat.blt t 14 with | true => some (.cons .str (.last (.int .u64))) | false => some (.cons .str (.last (.int .u64))))))) | false => (match Nat.blt t 22 with | true => (match Nat.blt t 18 with | true => (match Nat.blt t 16 with | true => some (.ref .ptr) | false => (match Nat.blt t 17 with | true => some (.ref .ptr) | false => some (.ref .ptr))) | false => (match Nat.blt t 20 with | true => (match Nat.blt t 19 with | true => some (.last (.ref .ptr)) | false => some (.last (.ref .ptr))) | false => (match Nat.blt t 21 with | true => some (.ref .iface) | false => some (.int .i32)))) | false => (match Nat.blt t 26 with | true => (match Nat.blt t 24 with | true => (match Nat.blt t 23 with | true => some (.arr 16 (.int .u8)) | false => some (.arr 16 (.int .u8))) | false => (match Nat.blt t 25 with | true => some (.int .u16) | false => some (.arr 8 (.int .i64)))) | false => (match Nat.blt t 28 with | true => (match Nat.blt t 27 with | true => some (.int .u32) | false => some (.arr 8 (.int .u32))) | false => (match Nat.blt t 29 with | true => some (.ref .func) | false => some (.arr 8 (.int .i64))))))) | false => (match Nat.blt t 45 with | true => (match Nat.blt t 37 with | true => (match Nat.blt t 33 with | true => (match Nat.blt t 31 with | true => some (.arr 4 (.int .i64)) | false => (match Nat.blt t 32 with | true => some (.arr 4 (.int .i64)) | false => some (.arr 8 (.arr 4 (.int .i64))))) | false => (match Nat.blt t 35 with | true => (match Nat.blt t 34 with | true => some (.cons (.arr 8 (.int .i64)) (.last (.arr 8 (.arr 4 (.int .i64))))) | false => some (.cons (.arr 8 (.int .i64)) (.last (.arr 8 (.arr 4 (.int .i64)))))) | false => (match Nat.blt t 36 with | true => some (.ref .func) | false => some (.cons (.int .i64) (.last (.cons (.arr 8 (.int .i64)) (.last (.arr 8 (.arr 4 (.int .i64)))))))))) | false => (match Nat.blt t 41 with | true => (match Nat.blt t 39 with | true => (match Nat.blt t 38 with | true => some (.cons (.int .i64) (.last (.cons (.arr 8 (.int .i64)) (.last (.arr 8 (.arr 4 (.int .i64))))))) | false => some (.cons (.int .i64) (.cons (.int .i64) (.cons (.int .i64) (.last (.int .i64)))))) | false => (match Nat.blt t 40 with | true => some (.cons (.int .i64) (.cons (.int .i64) (.cons (.int .i64) (.last (.int .i64))))) | false => some (.ref .func))) | false => (match Nat.blt t 43 with | true => (match Nat.blt t 42 with | true => some (.ref .func) | false => some (.ref .func)) | false => (match Nat.blt t 44 with | true => some (.arr 7 (.int .i64)) | false => some (.ref .func))))) | false => (match Nat.blt t 52 with | true => (match Nat.blt t 48 with | true => (match Nat.blt t 46 with | true => some (.ref .func) | false => (match Nat.blt t 47 with | true => some (.ref .func) | false => some (.ref .func))) | false => (match Nat.blt t 50 with | true => (match Nat.blt t 49 with | true => some (.ref .slice) | false => some (.arr 127 .bool)) | false => (match Nat.blt t 51 with | true => some (.ref .func) | false => some (.ref .slice)))) | false => (match Nat.blt t 56 with | true => (match Nat.blt t 54 with | true => (match Nat.blt t 53 with | true => some (.arr 127 (.int .i64)) | false => some (.ref .slice)) | false => (match Nat.blt t 55 with | true => some (.ref .func) | false => some (.int .i64))) | false => (match Nat.blt t 58 with | true => (match Nat.blt t 57 with | true => none | false => some (.ref .func)) | false => (match Nat.blt t 59 with | true => some (.ref .func) | false => some (.ref .func))))))) | false => (match Nat.blt t 90 with | true => (match Nat.blt t 75 with | true => (match Nat.blt t 67 with | true => (match Nat.blt t 63 with | true => (match Nat.blt t 61 with | true => some (.arr 127 .bool) | false => (match Nat.blt t 62 with | true => none | false => some (.ref .func))) | false => (match Nat.blt t 65 with | true => (match Nat.blt t 64 with | true => some (.ref .func) | false => some (.ref .func)) | false => (match Nat.blt t 66 with | true => some (.ref .func) | false => some (.ref .func)))) | false => (match Nat.blt t 71 with | true => (match Nat.blt t 69 with | true => (match Nat.blt t 68 with | true => some (.ref .slice) | false => some (.ref .func)) | false => (match Nat.blt t 70 with | true => some (.ref .func) | false => some (.cons (.int .i64) (.last (.int .i64))))) | false => (match Nat.blt t 73 with | true => (match Nat.blt t 72 with | true => some (.cons (.int .i64) (.last (.int .i64))) | false => some (.ref .func)) | false => (match Nat.blt t 74 with | true => some (.ref .func) | false => some (.arr 32 (.int .i64)))))) | false => (match Nat.blt t 82 with | true => (match Nat.blt t 78 with | true => (match Nat.blt t 76 with | true => some (.arr 32 (.int .i64)) | false => (match Nat.blt t 77 with | true => some (.ref .func) | false => some (.ref .slice))) | false => (match Nat.blt t 80 with | true => (match Nat.blt t 79 with | true => some (.ref .func) | false => some (.ref .func)) | false => (match Nat.blt t 81 with | true => some (.ref .func) | false => some (.ref .slice)))) | false => (match Nat.blt t 86 with | true => (match Nat.blt t 84 with | true => (match Nat.blt t 83 with | true => some (.ref .func) | false => none) | false => (match Nat.blt t 85 with | true => some (.ref .func) | false => some (.ref .func))) | false => (match Nat.blt t 88 with | true => (match Nat.blt t 87 with | true => some (.ref .func) | false => some (.ref .func)) | false => (match Nat.blt t 89 with | true => some (.ref .func) | false => none))))) | false => (match Nat.blt t 105 with | true => (match Nat.blt t 97 with | true => (match Nat.blt t 93 with | true => (match Nat.blt t 91 with | true => some (.ref .func) | false => (match Nat.blt t 92 with | true => some (.arr 2 (.int .i64)) | false => some (.arr 2 (.arr 2 (.int .i64))))) | false => (match Nat.blt t 95 with | true => (match Nat.blt t 94 with | true => some (.cons (.int .i64) (.last (.int .i64))) | false => some (.cons (.int .i64) (.last (.int .i64)))) | false => (match Nat.blt t 96 with | true => some (.arr 6 (.cons (.int .i64) (.last (.int .i64)))) | false => some (.ref .func)))) | false => (match Nat.blt t 101 with | true => (match Nat.blt t 99 with | true => (match Nat.blt t 98 with | true => none | false => some (.ref .func)) | false => (match Nat.blt t 100 with | true => some (.ref .func) | false => some (.ref .func))) | false => (match Nat.blt t 103 with | true => (match Nat.blt t 102 with | true => some (.ref .func) | false => some (.int .u64)) | false => (match Nat.blt t 104 with | true => some (.ref .slice) | false => some (.ref .func))))) | false => (match Nat.blt t 112 with | true => (match Nat.blt t 108 with | true => (match Nat.blt t 106 with | true => some (.int .u64) | false => (match Nat.blt t 107 with | true => some (.ref .func) | false => some (.ref .func))) | false => (match Nat.blt t 110 with | true => (match Nat.blt t 109 with | true => some (.ref .func) | false => some (.ref .func)) | false => (match Nat.blt t 111 with | true => some (.ref .func) | false => some (.ref .func)))) | false => (match Nat.blt t 116 with | true => (match Nat.blt t 114 with | true => (match Nat.blt t 113 with | true => some (.ref .func) | false => some (.ref .func)) | false => (match Nat.blt t 115 with | true => some (.ref .func) | false => some (.ref .func))) | false => (match Nat.blt t 118 with | true => (match Nat.blt t 117 with | true => none | false => some (.ref .func)) | false => (match Nat.blt t 119 with | true => some (.ref .func) | false => some (.ref .func)))))))) | false => (match Nat.blt t 180 with | true => (match Nat.blt t 150 with | true => (match Nat.blt t 135 with | true => (match Nat.blt t 127 with | true => (match Nat.blt t 123 with | true => (match Nat.blt t 121 with | true => some (.ref .func) | false => (match Nat.blt t 122 with | true => some (.ref .func) | false => some (.ref .func))) | false => (match Nat.blt t 125 with | true => (match Nat.blt t 124 with | true => some (.ref .func) | false => none) | false => (match Nat.blt t 126 with | true => some (.ref .func) | false => some (.ref .func)))) | false => (match Nat.blt t 131 with | true => (match Nat.blt t 129 with | true => (match Nat.blt t 128 with | true => none | false => some (.ref .func)) | false => (match Nat.blt t 130 with | true => some (.ref .func) | false => some (.arr 13 (.int .i64)))) | false => (match Nat.blt t 133 with | true => (match Nat.blt t 132 with | true => some (.ref .func) | false => some (.ref .ptr)) | false => (match Nat.blt t 134 with | true => some (.ref .func) | false => some (.ref .func))))) | false => (match Nat.blt t 142 with | true => (match Nat.blt t 138 with | true => (match Nat.blt t 136 with | true => some (.ref .func) | false => (match Nat.blt t 137 with | true => some (.ref .func) | false => some (.arr 4 .bool))) | false => (match Nat.blt t 140 with | true => (match Nat.blt t 139 with | true => some (.ref .func) | false => some (.ref .func)) | false => (match Nat.blt t 141 with | true => some (.ref .slice) | false => some (.ref .func)))) | false => (match Nat.blt t 146 with | true => (match Nat.blt t 144 with | true => (match Nat.blt t 143 with | true => some (.ref .func) | false => some (.ref .func)) | false => (match Nat.blt t 145 with | true => some (.arr 4 (.int .u64)) | false => some (.arr 4 (.int .u64)))) | false => (match Nat.blt t 148 with | true => (match Nat.blt t 147 with | true => some (.ref .slice) | false => some (.ref .func)) | false => (match Nat.blt t 149 with | true => some (.ref .func) | false => some (.ref .func)))))) | false => (match Nat.blt t 165 with | true => (match Nat.blt t 157 with | true => (match Nat.blt t 153 with | true => (match Nat.blt t 151 with | true => some (.ref .func) | false => (match Nat.blt t 152 with | true => some (.ref .func) | false => some (.ref .map))) | false => (match Nat.blt t 155 with | true => (match Nat.blt t 154 with | true => some (.ref .func) | false => some (.ref .func)) | false => (match Nat.blt t 156 with | true => some (.ref .func) | false => some (.ref .func)))) | false => (match Nat.blt t 161 with | true => (match Nat.blt t 159 with | true => (match Nat.blt t 158 with | true => some (.ref .ptr) | false => some (.ref .func)) | false => (match Nat.blt t 160 with | true => some (.ref .slice) | false => some (.cons (.ref .slice) (.last (.ref .func))))) | false => (match Nat.blt t 163 with | true => (match Nat.blt t 162 with | true => some (.cons (.ref .slice) (.last (.ref .func))) | false => some (.ref .func)) | false => (match Nat.blt t 164 with | true => some (.cons (.int .i64) (.last (.int .i64))) | false => some (.cons (.int .i64) (.last (.int .i64))))))) | false => (match Nat.blt t 172 with | true => (match Nat.blt t 168 with | true => (match Nat.blt t 166 with | true => some (.ref .func) | false => (match Nat.blt t 167 with | true => some (.ref .func) | false => none)) | false => (match Nat.blt t 170 with | true => (match Nat.blt t 169 with | true => some (.ref .func) | false => some (.ref .func)) | false => (match Nat.blt t 171 with | true => some (.arr 16 (.arr 2 (.int .i64))) | false => some (.arr 16 (.arr 2 (.int .i64)))))) | false => (match Nat.blt t 176 with | true => (match Nat.blt t 174 with | true => (match Nat.blt t 173 with | true => some (.ref .func) | false => some (.ref .func)) | false => (match Nat.blt t 175 with | true => some (.ref .func) | false => some (.ref .func))) | false => (match Nat.blt t 178 with | true => (match Nat.blt t 177 with | true => some (.ref .ptr) | false => some (.ref .func)) | false => (match Nat.blt t 179 with | true => none | false => some (.ref .func))))))) | false => (match Nat.blt t 210 with | true => (match Nat.blt t 195 with | true => (match Nat.blt t 187 with | true => (match Nat.blt t 183 with | true => (match Nat.blt t 181 with | true => some (.ref .func) | false => (match Nat.blt t 182 with | true => some (.ref .func) | false => some (.ref .func))) | false => (match Nat.blt t 185 with | true => (match Nat.blt t 184 with | true => some (.arr 9 (.arr 13 (.int .i64))) | false => some (.arr 9 (.arr 13 (.int .i64)))) | false => (match Nat.blt t 186 with | true => some (.ref .func) | false => some (.ref .func)))) | false => (match Nat.blt t 191 with | true => (match Nat.blt t 189 with | true => (match Nat.blt t 188 with | true => some (.ref .ptr) | false => some (.ref .func)) | false => (match Nat.blt t 190 with | true => some (.arr 128 .bool) | false => some (.ref .func))) | false => (match Nat.blt t 193 with | true => (match Nat.blt t 192 with | true => some (.ref .func) | false => some (.ref .func)) | false => (match Nat.blt t 194 with | true => some (.ref .iface) | false => some (.ref .iface))))) | false => (match Nat.blt t 202 with | true => (match Nat.blt t 198 with | true => (match Nat.blt t 196 with | true => some (.ref .func) | false => (match Nat.blt t 197 with | true => some (.ref .func) | false => some (.ref .func))) | false => (match Nat.blt t 200 with | true => (match Nat.blt t 199 with | true => some (.ref .func) | false => some (.ref .func)) | false => (match Nat.blt t 201 with | true => some (.ref .func) | false => some (.ref .func)))) | false => (match Nat.blt t 206 with | true => (match Nat.blt t 204 with | true => (match Nat.blt t 203 with | true => some (.ref .func) | false => some (.ref .ptr)) | false => (match Nat.blt t 205 with | true => some (.ref .func) | false => some (.ref .ptr))) | false => (match Nat.blt t 208 with | true => (match Nat.blt t 207 with | true => some (.cons (.ref .ptr) (.cons (.ref .slice) (.cons (.ref .slice) (.cons (.ref .slice) (.cons (.int .i64) (.cons (.int .i64) (.last (.int .i64)))))))) | false => some (.cons (.ref .ptr) (.cons (.ref .slice) (.cons (.ref .slice) (.cons (.ref .slice) (.cons (.int .i64) (.cons (.int .i64) (.last (.int .i64))))))))) | false => (match Nat.blt t 209 with | true => some (.ref .func) | false => some (.ref .func)))))) | false => (match Nat.blt t 225 with | true => (match Nat.blt t 217 with | true => (match Nat.blt t 213 with | true => (match Nat.blt t 211 with | true => some (.ref .func) | false => (match Nat.blt t 212 with | true => some (.ref .func) | false => some (.ref .func))) | false => (match Nat.blt t 215 with | true => (match Nat.blt t 214 with | true => some (.ref .func) | false => some (.ref .func)) | false => (match Nat.blt t 216 with | true => some (.ref .ptr) | false => some (.cons (.int .i64) (.cons (.int .i64) (.cons (.int .i64) (.last (.int .i64)))))))) | false => (match Nat.blt t 221 with | true => (match Nat.blt t 219 with | true => (match Nat.blt t 218 with | true => some (.cons (.int .i64) (.cons (.int .i64) (.cons (.int .i64) (.last (.int .i64))))) | false => some (.arr 128 (.int .i64))) | false => (match Nat.blt t 220 with | true => some (.cons (.arr 127 (.int .i64)) (.last (.arr 128 (.int .i64)))) | false => some (.cons (.arr 127 (.int .i64)) (.last (.arr 128 (.int .i64)))))) | false => (match Nat.blt t 223 with | true => (match Nat.blt t 222 with | true => some (.ref .func) | false => some (.ref .func)) | false => (match Nat.blt t 224 with | true => some (.arr 7 (.arr 2 (.int .i64))) | false => some (.ref .func))))) | false => (match Nat.blt t 232 with | true => (match Nat.blt t 228 with | true => (match Nat.blt t 226 with | true => some (.ref .func) | false => (match Nat.blt t 227 with | true => some (.cons (.ref .ptr) (.cons (.ref .ptr) (.cons (.ref .ptr) (.last .str)))) | false => some (.cons (.ref .ptr) (.cons (.ref .ptr) (.cons (.ref .ptr) (.last .str)))))) | false => (match Nat.blt t 230 with | true => (match Nat.blt t 229 with | true => some (.arr 0 (.ref .ptr)) | false => some (.last (.arr 0 (.ref .ptr)))) | false => (match Nat.blt t 231 with | true => some (.last (.arr 0 (.ref .ptr))) | false => some (.int .u8)))) | false => (match Nat.blt t 236 with | true => (match Nat.blt t 234 with | true => (match Nat.blt t 233 with | true => some (.int .u8) | false => some (.ref .func)) | false => (match Nat.blt t 235 with | true => some (.ref .ptr) | false => some (.int .i32))) | false => (match Nat.blt t 238 with | true => (match Nat.blt t 237 with | true => some (.int .i32) | false => some (.cons (.int .u64) (.cons (.int .u64) (.cons (.int .u32) (.cons (.int .u8) (.cons (.int .u8) (.cons (.int .u8) (.cons (.int .u8) (.cons (.ref .func) (.cons (.ref .ptr) (.cons (.int .i32) (.last (.int .i32))))))))))))) | false => (match Nat.blt t 239 with | true => some (.cons (.int .u64) (.cons (.int .u64) (.cons (.int .u32) (.cons (.int .u8) (.cons (.int .u8) (.cons (.int .u8) (.cons (.int .u8) (.cons (.ref .func) (.cons (.ref .ptr) (.cons (.int .i32) (.last (.int .i32)))))))))))) | false => none))))))))
  | false => none

def slT (t : TypeId) : Option TypeId := match Nat.blt t 240 with
  | true => (match Nat.blt t 120 with | true => (match Nat.blt t 60 with | true => (match Nat.blt t 30 with | true => none | false => (match Nat.blt t 45 with | true => none | false => (match Nat.blt t 52 with | true => (match Nat.blt t 48 with | true => none | false => (match Nat.blt t 50 with | true => (match Nat.blt t 49 with | true => some 24 | false => none) | false => (match Nat.blt t 51 with | true => none | false => some 37))) | false => (match Nat.blt t 56 with | true => (match Nat.blt t 54 with | true => (match Nat.blt t 53 with | true => none | false => some 4) | false => none) | false => none)))) | false => (match Nat.blt t 90 with | true => (match Nat.blt t 75 with | true => (match Nat.blt t 67 with | true => none | false => (match Nat.blt t 71 with | true => (match Nat.blt t 69 with | true => (match Nat.blt t 68 with | true => some 71 | false => none) | false => none) | false => none)) | false => (match Nat.blt t 82 with | true => (match Nat.blt t 78 with | true => (match Nat.blt t 76 with | true => none | false => (match Nat.blt t 77 with | true => none | false => some 75)) | false => (match Nat.blt t 80 with | true => none | false => (match Nat.blt t 81 with | true => none | false => some 3))) | false => none)) | false => (match Nat.blt t 105 with | true => (match Nat.blt t 97 with | true => none | false => (match Nat.blt t 101 with | true => none | false => (match Nat.blt t 103 with | true => none | false => (match Nat.blt t 104 with | true => some 5 | false => none)))) | false => none))) | false => (match Nat.blt t 180 with | true => (match Nat.blt t 150 with | true => (match Nat.blt t 135 with | true => none | false => (match Nat.blt t 142 with | true => (match Nat.blt t 138 with | true => none | false => (match Nat.blt t 140 with | true => none | false => (match Nat.blt t 141 with | true => some 31 | false => none))) | false => (match Nat.blt t 146 with | true => none | false => (match Nat.blt t 148 with | true => (match Nat.blt t 147 with | true => some 105 | false => none) | false => none)))) | false => (match Nat.blt t 165 with | true => (match Nat.blt t 157 with | true => none | false => (match Nat.blt t 161 with | true => (match Nat.blt t 159 with | true => none | false => (match Nat.blt t 160 with | true => some 164 | false => none)) | false => none)) | false => none)) | false => none))
  | false => none

def byT (t : TypeId) : Nat := match Nat.blt t 240 with
  | true => (match Nat.blt t 120 with | true => (match Nat.blt t 60 with | true => (match Nat.blt t 30 with | true => (match Nat.blt t 15 with | true => (match Nat.blt t 7 with | true => (match Nat.blt t 3 with | true => 0 | false => (match Nat.blt t 5 with | true => (match Nat.blt t 4 with | true => 8 | false => 1) | false => (match Nat.blt t 6 with | true => 1 | false => 0))) | false => 0) | false => (match Nat.blt t 22 with | true => 0 | false => (match Nat.blt t 26 with | true => (match Nat.blt t 24 with | true => 0 | false => (match Nat.blt t 25 with | true => 2 | false => 0)) | false => 0))) | false => (match Nat.blt t 45 with | true => (match Nat.blt t 37 with | true => (match Nat.blt t 33 with | true => (match Nat.blt t 31 with | true => 0 | false => (match Nat.blt t 32 with | true => 32 | false => 0)) | false => 0) | false => (match Nat.blt t 41 with | true => (match Nat.blt t 39 with | true => (match Nat.blt t 38 with | true => 328 | false => 0) | false => 0) | false => 0)) | false => 0)) | false => (match Nat.blt t 90 with | true => (match Nat.blt t 75 with | true => (match Nat.blt t 67 with | true => 0 | false => (match Nat.blt t 71 with | true => 0 | false => (match Nat.blt t 73 with | true => (match Nat.blt t 72 with | true => 16 | false => 0) | false => 0))) | false => (match Nat.blt t 82 with | true => (match Nat.blt t 78 with | true => (match Nat.blt t 76 with | true => 256 | false => 0) | false => 0) | false => 0)) | false => (match Nat.blt t 105 with | true => 0 | false => (match Nat.blt t 112 with | true => (match Nat.blt t 108 with | true => (match Nat.blt t 106 with | true => 8 | false => 0) | false => 0) | false => 0)))) | false => (match Nat.blt t 180 with | true => (match Nat.blt t 150 with | true => 0 | false => (match Nat.blt t 165 with | true => (match Nat.blt t 157 with | true => 0 | false => (match Nat.blt t 161 with | true => 0 | false => (match Nat.blt t 163 with | true => 0 | false => (match Nat.blt t 164 with | true => 0 | false => 16)))) | false => 0)) | false => 0))
  | false => 0

def eqT0 (t : TypeId) : Bool := match Nat.blt t 240 with
  | true => (match Nat.blt t 120 with | true => (match Nat.blt t 60 with | true => (match Nat.blt t 30 with | true => (match Nat.blt t 15 with | true => (match Nat.blt t 7 with | true => false | false => (match Nat.blt t 11 with | true => (match Nat.blt t 9 with | true => (match Nat.blt t 8 with | true => true | false => true) | false => false) | false => false)) | false => (match Nat.blt t 22 with | true => false | false => (match Nat.blt t 26 with | true => (match Nat.blt t 24 with | true => (match Nat.blt t 23 with | true => true | false => true) | false => (match Nat.blt t 25 with | true => false | false => true)) | false => (match Nat.blt t 28 with | true => (match Nat.blt t 27 with | true => false | false => true) | false => (match Nat.blt t 29 with | true => false | false => true))))) | false => (match Nat.blt t 45 with | true => (match Nat.blt t 37 with | true => (match Nat.blt t 33 with | true => (match Nat.blt t 31 with | true => true | false => (match Nat.blt t 32 with | true => true | false => true)) | false => (match Nat.blt t 35 with | true => (match Nat.blt t 34 with | true => true | false => true) | false => (match Nat.blt t 36 with | true => false | false => true))) | false => (match Nat.blt t 41 with | true => (match Nat.blt t 39 with | true => (match Nat.blt t 38 with | true => true | false => true) | false => (match Nat.blt t 40 with | true => true | false => false)) | false => (match Nat.blt t 43 with | true => false | false => (match Nat.blt t 44 with | true => true | false => false)))) | false => (match Nat.blt t 52 with | true => (match Nat.blt t 48 with | true => false | false => (match Nat.blt t 50 with | true => (match Nat.blt t 49 with | true => false | false => true) | false => false)) | false => (match Nat.blt t 56 with | true => (match Nat.blt t 54 with | true => (match Nat.blt t 53 with | true => true | false => false) | false => false) | false => false)))) | false => (match Nat.blt t 90 with | true => (match Nat.blt t 75 with | true => (match Nat.blt t 67 with | true => (match Nat.blt t 63 with | true => (match Nat.blt t 61 with | true => true | false => false) | false => false) | false => (match Nat.blt t 71 with | true => (match Nat.blt t 69 with | true => false | false => (match Nat.blt t 70 with | true => false | false => true)) | false => (match Nat.blt t 73 with | true => (match Nat.blt t 72 with | true => true | false => false) | false => (match Nat.blt t 74 with | true => false | false => true)))) | false => (match Nat.blt t 82 with | true => (match Nat.blt t 78 with | true => (match Nat.blt t 76 with | true => true | false => false) | false => false) | false => false)) | false => (match Nat.blt t 105 with | true => (match Nat.blt t 97 with | true => (match Nat.blt t 93 with | true => (match Nat.blt t 91 with | true => false | false => (match Nat.blt t 92 with | true => true | false => true)) | false => (match Nat.blt t 95 with | true => (match Nat.blt t 94 with | true => true | false => true) | false => (match Nat.blt t 96 with | true => true | false => false))) | false => false) | false => false))) | false => (match Nat.blt t 180 with | true => (match Nat.blt t 150 with | true => (match Nat.blt t 135 with | true => (match Nat.blt t 127 with | true => false | false => (match Nat.blt t 131 with | true => (match Nat.blt t 129 with | true => false | false => (match Nat.blt t 130 with | true => false | false => true)) | false => false)) | false => (match Nat.blt t 142 with | true => (match Nat.blt t 138 with | true => (match Nat.blt t 136 with | true => false | false => (match Nat.blt t 137 with | true => false | false => true)) | false => false) | false => (match Nat.blt t 146 with | true => (match Nat.blt t 144 with | true => false | false => (match Nat.blt t 145 with | true => true | false => true)) | false => false))) | false => (match Nat.blt t 165 with | true => (match Nat.blt t 157 with | true => false | false => (match Nat.blt t 161 with | true => false | false => (match Nat.blt t 163 with | true => false | false => (match Nat.blt t 164 with | true => true | false => true)))) | false => (match Nat.blt t 172 with | true => (match Nat.blt t 168 with | true => false | false => (match Nat.blt t 170 with | true => false | false => (match Nat.blt t 171 with | true => true | false => true))) | false => false))) | false => (match Nat.blt t 210 with | true => (match Nat.blt t 195 with | true => (match Nat.blt t 187 with | true => (match Nat.blt t 183 with | true => false | false => (match Nat.blt t 185 with | true => (match Nat.blt t 184 with | true => true | false => true) | false => false)) | false => (match Nat.blt t 191 with | true => (match Nat.blt t 189 with | true => false | false => (match Nat.blt t 190 with | true => true | false => false)) | false => false)) | false => false) | false => (match Nat.blt t 225 with | true => (match Nat.blt t 217 with | true => (match Nat.blt t 213 with | true => false | false => (match Nat.blt t 215 with | true => false | false => (match Nat.blt t 216 with | true => false | false => true))) | false => (match Nat.blt t 221 with | true => (match Nat.blt t 219 with | true => (match Nat.blt t 218 with | true => true | false => true) | false => (match Nat.blt t 220 with | true => true | false => true)) | false => (match Nat.blt t 223 with | true => false | false => (match Nat.blt t 224 with | true => true | false => false)))) | false => false))))
  | false => false

def mpT (t : TypeId) : Option (TypeId × TypeId) := match Nat.blt t 240 with
  | true => (match Nat.blt t 120 with | true => none | false => (match Nat.blt t 180 with | true => (match Nat.blt t 150 with | true => none | false => (match Nat.blt t 165 with | true => (match Nat.blt t 157 with | true => (match Nat.blt t 153 with | true => (match Nat.blt t 151 with | true => none | false => (match Nat.blt t 152 with | true => none | false => some (3, 4))) | false => none) | false => none) | false => none)) | false => none))
  | false => none

def D : TI := ⟨tyT, slT, byT, eqT0, mpT⟩
end Go.SL.A

/- The seat's type tables fit the program. -/
namespace Go.SL.A
open Go Go.SL

theorem beyond {t : TypeId} (h : ¬ t < 240) : tyT t = none ∧ slT t = none ∧ eqT0 t = false ∧ mpT t = none := by
  have : Nat.blt t 240 = false := by
    cases hb : Nat.blt t 240 with
    | false => rfl
    | true => exact absurd (Nat.le_of_ble_eq_true hb) h
  refine ⟨?_, ?_, ?_, ?_⟩
  · unfold tyT; rw [this]
  · unfold slT; rw [this]
  · unfold eqT0; rw [this]
  · unfold mpT; rw [this]

theorem tyAll : ((List.range 240).all fun T => chkTy Go.Proofs.Tryd.prog D T) = true := by kernel_rfl
theorem slAll : ((List.range 240).all fun T => chkSl Go.Proofs.Tryd.prog D T) = true := by kernel_rfl
theorem eqAll : ((List.range 240).all fun T => chkEq Go.Proofs.Tryd.prog D T) = true := by kernel_rfl

theorem mpAll : ((List.range 240).all fun T => chkMp Go.Proofs.Tryd.prog D T) = true := by kernel_rfl

theorem good : Good Go.Proofs.Tryd.prog D where
  ty := fun T => by
    by_cases h : T < 240
    · exact List.all_eq_true.1 tyAll T (List.mem_range.2 h)
    · unfold chkTy; rw [show D.ty T = none from (beyond h).1]
  sl := fun T => by
    by_cases h : T < 240
    · exact List.all_eq_true.1 slAll T (List.mem_range.2 h)
    · unfold chkSl; rw [show D.sl T = none from (beyond h).2.1]
  eq := fun T => by
    by_cases h : T < 240
    · exact List.all_eq_true.1 eqAll T (List.mem_range.2 h)
    · unfold chkEq; rw [show D.eqok T = false from (beyond h).2.2.1]; rfl
  mp := fun T => by
    by_cases h : T < 240
    · exact List.all_eq_true.1 mpAll T (List.mem_range.2 h)
    · unfold chkMp; rw [show D.mp T = none from (beyond h).2.2.2]

theorem mix : Go.Proofs.Tryd.prog.follows .mixedOrders = true := by kernel_rfl

end Go.SL.A

/- No function is held to anything yet; steps of counts. -/
namespace Go.SL.S
def findIx (p : Int → Bool) : List Int → Nat → Int
  | [], _ => -1
  | x :: l, i => if p x then (i : Int) else findIx p l (i + 1)
end Go.SL.S
namespace Go.SL.A
open Go Go.SL Go.SL.S
def G00 : FuncId → Option Spec := fun _ => none
theorem snd00 : Sound Go.Proofs.Tryd.prog G00 := Sound.none
theorem step_i {i : Nat} (h : i < 1000000) : IntKind.i64.wrap ((i : Int) + 1) = ((i + 1 : Nat) : Int) := by rw [w64 (by omega) (by omega)]; simp
theorem findIx_sign (p : Int → Bool) : ∀ (l : List Int) (i : Nat), decide (0 ≤ findIx p l i) = l.any p
  | [], i => by simp [findIx]
  | x :: l, i => by
    rw [findIx, List.any_cons]
    cases h : p x with
    | true => simp
    | false => simp [findIx_sign p l (i + 1)]
theorem take_snoc' {α : Type} {l : List α} {k : Nat} (d : α) (h : k < l.length) : l.take (k + 1) = l.take k ++ [l.getD k d] := by
  rw [List.take_add_one]; simp [h]
end Go.SL.A

/- The keyed sum of bytes: plain functions. -/
namespace Go.SL.S
open Go Go.SL
def turnI (x n : Int) : Int := ior .u64 (ishl .u64 x (n % 64)) (ishr .u64 x (64 - n % 64))
def mixA (v : List Int) (a b : Nat) : List Int := List.set v a (IntKind.u64.wrap (List.getD v a 0 + List.getD v b 0))
def mixB (v : List Int) (a b : Nat) (n : Int) : List Int := List.set v b (ixor .u64 (turnI (List.getD v b 0) n) (List.getD v a 0))
def mixF (v : List Int) (a b : Nat) (n : Int) : List Int := mixB (mixA v a b) a b n
def turnAt (v : List Int) (a : Nat) : List Int := List.set v a (turnI (List.getD v a 0) 32)
def rndF (v : List Int) : List Int := turnAt (mixF (mixF (mixF (turnAt (mixF v 0 1 13) 0) 2 3 16) 0 3 21) 2 1 17) 2
def rndN (v : List Int) : Nat → List Int
  | 0 => v
  | n + 1 => rndF (rndN v n)
def numTo (s : ByteArray) (at' : Nat) : Nat → Int
  | 0 => 0
  | n + 1 => numTo s at' n + byteAt s (at' + n) * 256 ^ n
def wordS (s : ByteArray) (at' : Nat) : Int := numTo s at' 8
def wordsTo (s : ByteArray) (n : Nat) : List Int := (List.range n).map fun i => wordS s (8 * i)
def lastW (s : ByteArray) : Int := wordS s (8 * (ByteArray.size s / 8)) + ((ByteArray.size s % 256 : Nat) : Int) * 72057594037927936
def wordsF (s : ByteArray) : List Int := wordsTo s (ByteArray.size s / 8) ++ [lastW s]
def initS (k : List Int) : List Int :=
  [ixor .u64 (wordS (bytesOf k) 0) 8317987319222330741, ixor .u64 (wordS (bytesOf k) 8) 7237128888997146477, ixor .u64 (wordS (bytesOf k) 0) 7816392313619706465, ixor .u64 (wordS (bytesOf k) 8) 8387220255154660723]
def takeA (v : List Int) (w : Int) : List Int := List.set v 3 (ixor .u64 (List.getD v 3 0) w)
def takeB (v : List Int) (w : Int) : List Int := List.set v 0 (ixor .u64 (List.getD v 0 0) w)
def takeW (v : List Int) (w : Int) : List Int := takeB (rndN (takeA v w) 2) w
def endA (v : List Int) : List Int := List.set v 2 (ixor .u64 (List.getD v 2 0) 255)
def sumV (v : List Int) : Int := ixor .u64 (ixor .u64 (ixor .u64 (List.getD v 0 0) (List.getD v 1 0)) (List.getD v 2 0)) (List.getD v 3 0)
def sipS (k : List Int) (s : ByteArray) (n : Nat) : List Int := ((wordsF s).take n).foldl takeW (initS k)
def sipF (k : List Int) (s : ByteArray) : Int := sumV (rndN (endA ((wordsF s).foldl takeW (initS k))) 4)
def rot1 (x : Int) : Int := IntKind.u64.wrap (2 * x) + (if 9223372036854775808 ≤ x then 1 else 0)
def leftTo (x : Int) : Nat → Int
  | 0 => x
  | n + 1 => rot1 (leftTo x n)
end Go.SL.S

/- Functions and what they are held to do: bound to their code. -/
namespace Go.SL.A
open Go Go.SL Go.SL.S
set_option maxRecDepth 100000
noncomputable def Cd124 : Ctx := ⟨Go.Proofs.Tryd.prog, D, G00, (fun _ _ => none), fun _ => []⟩
def annd124 (_x _n : Int) : Nat → St → Option Ann := fun _ _ => none
def outd124 (x n : Int) : COut := ⟨[], .v (.int .u64) (turnI x n), [], []⟩
def spd124 : Spec := fun args ins => match args, ins with
  | [⟨.int .u64, x⟩, ⟨.int .i64, n⟩], [] => some (outd124 x n)
  | _, _ => none
def Gd124 := addG G00 127 spd124
def Pd124 (x n : Int) : Prop :=
 ((64:Int)≠0∧(64:Int)≠0)∧(0≤Int.tmod (IntKind.wrap .i64 (Int.tmod n (64:Int)+64)) (64:Int)∧0≤IntKind.wrap .i64 (64 - Int.tmod (IntKind.wrap .i64 (Int.tmod n (64:Int)+64)) (64:Int)))∧ior .u64 (ishl .u64 x (Int.tmod (IntKind.wrap .i64
 (Int.tmod n (64:Int)+64)) (64:Int))) (ishr .u64 x (IntKind.wrap .i64 (64 - Int.tmod (IntKind.wrap .i64 (Int.tmod n (64:Int)+64)) (64:Int))))=turnI x n
theorem vcd124 (x n : Int) : Pd124 x n = vcFun Cd124 (annd124 x n) Go.Proofs.Tryd.f127 [⟨.int .u64, x⟩, ⟨.int .i64, n⟩] [] (outd124 x n) := by kernel_rfl

noncomputable def Cd123 : Ctx := ⟨Go.Proofs.Tryd.prog, D, Gd124, (fun _ _ => none), fun _ => []⟩
def annd123 (_v : List Int) (_a _b _n : Int) : Nat → St → Option Ann := fun _ _ => none
def outd123 (v : List Int) (a b n : Int) : COut := ⟨[0 ≤ a ∧ a < 4 ∧ 0 ≤ b ∧ b < 4], .tup [], [(0, some ⟨false, true, .arr 4 (.int .u64), [mixF v a.toNat b.toNat n]⟩)], []⟩
def spd123 : Spec := fun args ins => match args, ins with
  | [⟨.ref .ptr, .ptr 0 (.arr 4 (.int .u64)) [0]⟩, ⟨.int .i64, a⟩, ⟨.int .i64, b⟩, ⟨.int .i64, n⟩], [⟨false, true, .arr 4 (.int .u64), [v]⟩] => some (outd123 v a b n)
  | _, _ => none
def Gd123 := addG Gd124 126 spd123
def Pd123 (v : List Int) (a b n : Int) : Prop :=
 ((0≤a∧a<(↑ (4:Nat):Int))∧a.toNat<4∧(0≤b∧b<(↑ (4:Nat):Int))∧b.toNat<4∧(0≤a∧a<(↑ (4:Nat):Int))∧a.toNat<4)∧((0≤b∧b<(↑ (4:Nat):Int))∧b.toNat<4∧(0≤a∧a<(↑ (4:Nat):Int))∧a.toNat<4∧(0≤b∧b<(↑ (4:Nat):Int))∧b.toNat<4)∧List.set (List.set v a.toNat
 (IntKind.wrap .u64 (List.getD v a.toNat (0:Int)+List.getD v b.toNat (0:Int)))) b.toNat (ixor .u64 (turnI (List.getD (List.set v a.toNat (IntKind.wrap .u64 (List.getD v a.toNat (0:Int)+List.getD v b.toNat (0:Int)))) b.toNat (0:Int))
 n) (List.getD (List.set v a.toNat (IntKind.wrap .u64 (List.getD v a.toNat (0:Int)+List.getD v b.toNat (0:Int)))) a.toNat (0:Int)))=mixF v a.toNat b.toNat n∧false=false
theorem vcd123 (v : List Int) (a b n : Int) : Pd123 v a b n = vcFun Cd123 (annd123 v a b n) Go.Proofs.Tryd.f126 [⟨.ref .ptr, .ptr 0 (.arr 4 (.int .u64)) [0]⟩, ⟨.int .i64, a⟩, ⟨.int .i64, b⟩, ⟨.int .i64, n⟩] [⟨false, true, .arr 4 (.int .u64), [v]⟩] (outd123 v a b n) := by kernel_rfl

noncomputable def Cd96 : Ctx := ⟨Go.Proofs.Tryd.prog, D, Gd123, (fun _ _ => none), fun _ => []⟩
def annd96 (_v : List Int) : Nat → St → Option Ann := fun _ _ => none
def outd96 (v : List Int) : COut := ⟨[], .tup [], [(0, some ⟨false, true, .arr 4 (.int .u64), [rndF v]⟩)], []⟩
def spd96 : Spec := fun args ins => match args, ins with
  | [⟨.ref .ptr, .ptr 0 (.arr 4 (.int .u64)) [0]⟩], [⟨false, true, .arr 4 (.int .u64), [v]⟩] => some (outd96 v)
  | _, _ => none
def Gd96 := addG Gd123 89 spd96
def Pd96 (v : List Int) : Prop :=
 ((0:Int)≤0∧(0:Int)<4∧(0:Int)≤1∧(1:Int)<4)∧(((0:Int)≤0∧0<(↑ (4:Nat):Int))∧(0:Nat)<4∧((0:Int)≤0∧0<(↑ (4:Nat):Int))∧(0:Nat)<4)∧((0:Int)≤2∧(2:Int)<4∧(0:Int)≤3∧(3:Int)<4)∧((0:Int)≤0∧(0:Int)<4∧(0:Int)≤3∧(3:Int)<4)∧((0:Int)≤2∧(2:Int)<4∧(0:Int)≤1∧(1:Int)<4)∧(((0:Int)≤2∧2<(↑
 (4:Nat):Int))∧(2:Nat)<4∧((0:Int)≤2∧2<(↑ (4:Nat):Int))∧(2:Nat)<4)∧List.set (mixF (mixF (mixF (List.set (mixF v (0:Nat) (1:Nat) (13:Int)) (0:Nat) (turnI (List.getD (mixF v (0:Nat) (1:Nat) (13:Int)) (0:Nat) (0:Int)) (32:Int))) (2:Nat)
 (3:Nat) (16:Int)) (0:Nat) (3:Nat) (21:Int)) (2:Nat) (1:Nat) (17:Int)) (2:Nat) (turnI (List.getD (mixF (mixF (mixF (List.set (mixF v (0:Nat) (1:Nat) (13:Int)) (0:Nat) (turnI (List.getD (mixF v (0:Nat) (1:Nat) (13:Int)) (0:Nat) (0:Int))
 (32:Int))) (2:Nat) (3:Nat) (16:Int)) (0:Nat) (3:Nat) (21:Int)) (2:Nat) (1:Nat) (17:Int)) (2:Nat) (0:Int)) (32:Int))=rndF v∧false=false
theorem vcd96 (v : List Int) : Pd96 v = vcFun Cd96 (annd96 v) Go.Proofs.Tryd.f89 [⟨.ref .ptr, .ptr 0 (.arr 4 (.int .u64)) [0]⟩] [⟨false, true, .arr 4 (.int .u64), [v]⟩] (outd96 v) := by kernel_rfl

noncomputable def Cd98 : Ctx := ⟨Go.Proofs.Tryd.prog, D, Gd96, (fun _ _ => none), fun _ => []⟩
def annd98 (v : List Int) (n : Int) : Nat → St → Option Ann := fun _ _ => some ⟨Nat, [1, 4], [], fun i => [(5, .v (.int .i64) (i : Int))], fun i => [(0, some ⟨false, true, .arr 4 (.int .u64), [rndN v i]⟩)], fun i => i ≤ n.toNat, fun i => n.toNat - i⟩
def outd98 (v : List Int) (n : Int) : COut := ⟨[0 ≤ n ∧ n ≤ 1000], .tup [], [(0, some ⟨false, true, .arr 4 (.int .u64), [rndN v n.toNat]⟩)], []⟩
def spd98 : Spec := fun args ins => match args, ins with
  | [⟨.int .i64, n⟩, ⟨.ref .func, .func (.func 89) [.ptr 0 (.arr 4 (.int .u64)) [0]] []⟩], [⟨false, true, .arr 4 (.int .u64), [v]⟩] => some (outd98 v n)
  | _, _ => none
def Gd98 := addG Gd96 91 spd98
def Pd98 (v : List Int) (n : Int) : Prop :=
 ∃ (x:Nat),((0=0∧n=n∧0=(x:Int)∧v=rndN v x∧false=false)∧x≤n.toNat)∧∀ (x:Nat),x≤n.toNat→(IntKind.min .i64≤(x:Int)∧(x:Int)≤IntKind.max .i64∧∀ (y:List Int),List.Mem y [rndN v x]→List.length y=4∧∀ (y_1:Int),List.Mem y_1 y→IntKind.min .u64≤y_1∧y_1≤IntKind.max
 .u64)→bif decide ((x:Int)<n) then ∃ (y:Nat),(0=0∧n=n∧IntKind.wrap .i64 ((x:Int)+1)=(y:Int)∧rndF (rndN v x)=rndN v y∧false=false)∧y≤n.toNat∧n.toNat - y<n.toNat - x else rndN v x=rndN v n.toNat∧false=false
theorem vcd98 (v : List Int) (n : Int) : Pd98 v n = vcFun Cd98 (annd98 v n) Go.Proofs.Tryd.f91 [⟨.int .i64, n⟩, ⟨.ref .func, .func (.func 89) [.ptr 0 (.arr 4 (.int .u64)) [0]] []⟩] [⟨false, true, .arr 4 (.int .u64), [v]⟩] (outd98 v n) := by kernel_rfl

noncomputable def Cd95 : Ctx := ⟨Go.Proofs.Tryd.prog, D, Gd98, (fun _ _ => none), fun _ => []⟩
def annd95 (s : ByteArray) : Nat → St → Option Ann := fun _ _ => some ⟨Nat, [0, 6], [], fun i => [(7, .v (.int .i64) (i : Int)), (3, .v (.int .u64) (numTo s 0 i))], fun _ => [], fun i => i ≤ ByteArray.size s, fun i => ByteArray.size s - i⟩
def outd95 (s : ByteArray) : COut := ⟨[ByteArray.size s ≤ 8], .v (.int .u64) (wordS s 0), [], []⟩
def spd95 : Spec := fun args ins => match args, ins with
  | [⟨.str, s⟩], [] => some (outd95 s)
  | _, _ => none
def Gd95 := addG Gd98 88 spd95
def Pd95 (s : ByteArray) : Prop :=
 ∃ (x:Nat),((s=s∧0=numTo s (0:Nat) x∧(↑ (ByteArray.size s):Int)=(↑ (ByteArray.size s):Int)∧0=(x:Int))∧x≤ByteArray.size s)∧∀ (x:Nat),x≤ByteArray.size s→IntKind.min .i64≤(x:Int)∧(x:Int)≤IntKind.max .i64∧IntKind.min .u64≤numTo s (0:Nat)
 x∧numTo s (0:Nat) x≤IntKind.max .u64→bif decide ((x:Int)<(↑ (ByteArray.size s):Int)) then ((0≤(x:Int)∧(x:Int)<(↑ (ByteArray.size s):Int))∧0≤IntKind.wrap .i64 ((8:Int) * (x:Int)))∧∃ (y:Nat),(s=s∧ior .u64 (numTo s (0:Nat) x) (ishl .u64
 (IntKind.wrap .u64 (byteAt s (x:Int).toNat)) (IntKind.wrap .i64 ((8:Int) * (x:Int))))=numTo s (0:Nat) y∧(↑ (ByteArray.size s):Int)=(↑ (ByteArray.size s):Int)∧IntKind.wrap .i64 ((x:Int)+1)=(y:Int))∧y≤ByteArray.size s∧ByteArray.size s
 - y<ByteArray.size s - x else numTo s (0:Nat) x=wordS s (0:Nat)
theorem vcd95 (s : ByteArray) : Pd95 s = vcFun Cd95 (annd95 s) Go.Proofs.Tryd.f88 [⟨.str, s⟩] [] (outd95 s) := by kernel_rfl

end Go.SL.A

/- Bytes, words and turns: plain facts. -/
namespace Go.SL.A
open Go Go.SL Go.SL.S
set_option maxRecDepth 100000

theorem wrap_u64 (x : Int) : IntKind.u64.wrap x = x % 18446744073709551616 := by simp [IntKind.wrap, IntKind.bits, IntKind.signed]
theorem w_u64 {x : Int} (h : 0 ≤ x) (h' : x < 18446744073709551616) : IntKind.u64.wrap x = x := by rw [wrap_u64]; omega
theorem p64 : (2 : Nat) ^ 64 = 18446744073709551616 := by decide

theorem byte_fit (s : ByteArray) (i : Nat) : 0 ≤ byteAt s i ∧ byteAt s i < 256 := by
  unfold byteAt
  have := UInt8.toNat_lt (s.data.toList.getD i 0)
  omega
theorem byte_beyond {s : ByteArray} {i : Nat} (h : ByteArray.size s ≤ i) : byteAt s i = 0 := by
  unfold byteAt
  rw [List.getD_eq_getElem?_getD, List.getElem?_eq_none (by rw [Array.length_toList]; exact h)]; rfl
theorem byte_ext (s : ByteArray) (a b i : Nat) (h : a + i < b) : byteAt (ByteArray.extract s a b) i = byteAt s (a + i) := by
  unfold byteAt
  rw [ByteArray.data_extract, Array.toList_extract, List.extract_eq_take_drop, List.getD_eq_getElem?_getD, List.getElem?_take, if_pos (by omega), List.getElem?_drop, ← List.getD_eq_getElem?_getD]
theorem byte_of {l : List Int} (hl : ∀ x ∈ l, 0 ≤ x ∧ x ≤ 255) (i : Nat) : byteAt (bytesOf l) i = l.getD i 0 := by
  unfold byteAt bytesOf
  show (((l.map fun n => UInt8.ofNat n.toNat).getD i 0).toNat : Int) = _
  rw [List.getD_eq_getElem?_getD, List.getElem?_map, List.getD_eq_getElem?_getD]
  by_cases h : i < l.length
  · rw [List.getElem?_eq_getElem h]
    have := hl _ (List.getElem_mem h)
    show ((UInt8.ofNat (l[i]).toNat).toNat : Int) = l[i]
    rw [UInt8.toNat_ofNat']; omega
  · rw [List.getElem?_eq_none (by omega)]; rfl
theorem size_of (l : List Int) : ByteArray.size (bytesOf l) = l.length := by unfold bytesOf ByteArray.size; simp

theorem pow256 (n : Nat) : (0 : Int) < 256 ^ n := Int.pow_pos (by decide)
theorem num_fit (s : ByteArray) (a : Nat) : ∀ n, 0 ≤ numTo s a n ∧ numTo s a n < 256 ^ n
  | 0 => by simp [numTo]
  | n + 1 => by
    have h1 := num_fit s a n
    have h2 := byte_fit s (a + n)
    have h3 := pow256 n
    rw [numTo, Int.pow_succ]
    generalize (256 : Int) ^ n = P at *
    generalize byteAt s (a + n) = b at *
    have h4 : 0 ≤ b * P := Int.mul_nonneg h2.1 (Int.le_of_lt h3)
    have h5 : b * P ≤ 255 * P := Int.mul_le_mul_of_nonneg_right (by omega) (Int.le_of_lt h3)
    omega
theorem num_more (s : ByteArray) (a n m : Nat) (hm : n ≤ m) (h : ∀ i, n ≤ i → i < m → byteAt s (a + i) = 0) : numTo s a m = numTo s a n := by
  induction m with
  | zero => rw [show n = 0 by omega]
  | succ m ih =>
    by_cases e : n = m + 1
    · rw [e]
    · rw [numTo, h m (by omega) (by omega), Int.zero_mul, Int.add_zero]
      exact ih (by omega) fun i h1 h2 => h i h1 (by omega)
theorem num_congr {s t : ByteArray} {a b : Nat} : ∀ {n : Nat}, (∀ i, i < n → byteAt s (a + i) = byteAt t (b + i)) → numTo s a n = numTo t b n
  | 0, _ => rfl
  | n + 1, h => by rw [numTo, numTo, num_congr fun i hi => h i (by omega), h n (by omega)]
theorem num_low (s : ByteArray) (a : Nat) : ∀ k, numTo s a (k + 1) = 256 * numTo s (a + 1) k + byteAt s a
  | 0 => by simp [numTo]
  | k + 1 => by
    rw [numTo, num_low s a k, numTo, Int.pow_succ, show a + (k + 1) = a + 1 + k by omega, Int.mul_add]
    have : byteAt s (a + 1 + k) * (256 ^ k * 256) = 256 * (byteAt s (a + 1 + k) * 256 ^ k) := by
      rw [← Int.mul_assoc, Int.mul_comm]
    rw [this]; omega
/-! ### Either -/
theorem or_num {x y : Nat} (h : x ||| y < 2 ^ 64) : ior .u64 (x : Int) (y : Int) = ((x ||| y : Nat) : Int) := by
  have hx : x < 2 ^ 64 := Nat.lt_of_le_of_lt Nat.left_le_or h
  have hy : y < 2 ^ 64 := Nat.lt_of_le_of_lt Nat.right_le_or h
  unfold ior
  have e1 : (BitVec.ofInt IntKind.u64.bits (x : Int) ||| BitVec.ofInt IntKind.u64.bits (y : Int)).toNat = x ||| y := by
    rw [BitVec.toNat_or, BitVec.ofInt_natCast, BitVec.ofInt_natCast, BitVec.toNat_ofNat, BitVec.toNat_ofNat]
    have e : (2 : Nat) ^ IntKind.u64.bits = 2 ^ 64 := rfl
    rw [e, Nat.mod_eq_of_lt hx, Nat.mod_eq_of_lt hy]
  rw [e1]
  rw [p64] at h
  exact w_u64 (by omega) (by omega)
theorem or_high {a c i : Nat} (h : a < 2 ^ i) (hb : 2 ^ i * c + a < 2 ^ 64) : ior .u64 (a : Int) ((2 ^ i * c : Nat) : Int) = ((2 ^ i * c + a : Nat) : Int) := by
  have e := Nat.two_pow_add_eq_or_of_lt h c
  have hc : a ||| 2 ^ i * c = 2 ^ i * c + a := by rw [Nat.or_comm, e]
  rw [or_num (by rw [hc]; exact hb), hc]
theorem or_low {a c i : Nat} (h : a < 2 ^ i) (hb : 2 ^ i * c + a < 2 ^ 64) : ior .u64 ((2 ^ i * c : Nat) : Int) (a : Int) = ((2 ^ i * c + a : Nat) : Int) := by
  have e := Nat.two_pow_add_eq_or_of_lt h c
  rw [or_num (by rw [← e]; exact hb), e]
theorem or_byte {a b : Int} {i : Nat} (ha : 0 ≤ a ∧ a < 256 ^ i) (hb : 0 ≤ b ∧ b < 256) (hi : i < 8) : ior .u64 a (ishl .u64 b (8 * (i : Int))) = a + b * 256 ^ i := by
  obtain ⟨x, rfl⟩ : ∃ n : Nat, a = n := ⟨a.toNat, by omega⟩
  obtain ⟨y, rfl⟩ : ∃ n : Nat, b = n := ⟨b.toNat, by omega⟩
  have main : ∀ j : Nat, j = 8 * i → (256 : Nat) ^ i = 2 ^ j → 2 ^ j * 256 ≤ 2 ^ 64 → ior .u64 (x : Int) (ishl .u64 (y : Int) (8 * (i : Int))) = x + y * 256 ^ i := by
    intro j hj hp h64
    have hx : x < 2 ^ j := by
      rw [← hp]
      have : (x : Int) < ((256 ^ i : Nat) : Int) := by simpa using ha.2
      omega
    have hyj : 2 ^ j * y ≤ 2 ^ j * 255 := Nat.mul_le_mul_left _ (by omega)
    have hpj : 0 < 2 ^ j := Nat.pow_pos (by decide)
    have hs : ishl .u64 (y : Int) (8 * (i : Int)) = ((2 ^ j * y : Nat) : Int) := by
      unfold ishl
      have e1 : (8 * (i : Int)).toNat = j := by omega
      have e2 : min j IntKind.u64.bits = j := by
        have : IntKind.u64.bits = 64 := rfl
        omega
      have e3 : (y : Int) * 2 ^ j = ((2 ^ j * y : Nat) : Int) := by
        rw [Int.natCast_mul, Int.natCast_pow, Int.mul_comm]; rfl
      rw [p64] at h64
      rw [e1, e2, e3]
      exact w_u64 (by omega) (by omega)
    rw [hs, or_high hx (by omega)]
    rw [← hp, Int.natCast_add, Int.natCast_mul, Int.natCast_pow, Int.mul_comm, Int.add_comm]; rfl
  rcases (show i = 0 ∨ i = 1 ∨ i = 2 ∨ i = 3 ∨ i = 4 ∨ i = 5 ∨ i = 6 ∨ i = 7 by omega) with rfl | rfl | rfl | rfl | rfl | rfl | rfl | rfl
  · exact main 0 rfl (by decide) (by decide)
  · exact main 8 rfl (by decide) (by decide)
  · exact main 16 rfl (by decide) (by decide)
  · exact main 24 rfl (by decide) (by decide)
  · exact main 32 rfl (by decide) (by decide)
  · exact main 40 rfl (by decide) (by decide)
  · exact main 48 rfl (by decide) (by decide)
  · exact main 56 rfl (by decide) (by decide)
theorem or_len {a : Int} {n : Nat} (ha : 0 ≤ a ∧ a < 72057594037927936) : ior .u64 a (ishl .u64 (IntKind.u64.wrap (n : Int)) 56) = a + ((n % 256 : Nat) : Int) * 72057594037927936 := by
  obtain ⟨x, rfl⟩ : ∃ m : Nat, a = m := ⟨a.toNat, by omega⟩
  have e56 : (2 : Nat) ^ 56 = 72057594037927936 := by decide
  have hs : ishl .u64 (IntKind.u64.wrap (n : Int)) 56 = ((2 ^ 56 * (n % 256) : Nat) : Int) := by
    unfold ishl
    have e2 : min (56 : Int).toNat IntKind.u64.bits = 56 := rfl
    have e3 : (2 : Int) ^ 56 = 72057594037927936 := by decide
    rw [e2, e3, e56, wrap_u64, wrap_u64]
    omega
  rw [hs, or_high (by rw [e56]; omega) (by rw [e56, p64]; omega), e56]
  omega

/-! ### Turns -/
def rotN (x m : Nat) : Nat := 2 ^ m * (x % 2 ^ (64 - m)) + x / 2 ^ (64 - m)
theorem pow_split {m : Nat} (h : m ≤ 64) : 2 ^ (64 - m) * 2 ^ m = 2 ^ 64 := by rw [← Nat.pow_add, Nat.sub_add_cancel h]
theorem rot_fit {x m : Nat} (hx : x < 2 ^ 64) (hm : m ≤ 64) : x / 2 ^ (64 - m) < 2 ^ m ∧ rotN x m < 2 ^ 64 := by
  have h1 : x / 2 ^ (64 - m) < 2 ^ m := Nat.div_lt_of_lt_mul (by rw [pow_split hm]; exact hx)
  refine ⟨h1, ?_⟩
  unfold rotN
  have h2 : x % 2 ^ (64 - m) < 2 ^ (64 - m) := Nat.mod_lt _ (Nat.pow_pos (by decide))
  have h3 : 2 ^ m * (x % 2 ^ (64 - m) + 1) ≤ 2 ^ m * 2 ^ (64 - m) := Nat.mul_le_mul_left _ (by omega)
  rw [Nat.mul_comm (2 ^ m) (2 ^ (64 - m)), pow_split hm, Nat.mul_add] at h3
  omega
theorem turn_num {x m : Nat} (hx : x < 2 ^ 64) (hm : m < 64) {n : Int} (hn : n % 64 = m) : turnI (x : Int) n = (rotN x m : Int) := by
  obtain ⟨h1, h2⟩ := rot_fit hx (Nat.le_of_lt hm)
  unfold turnI
  rw [hn]
  have e1 : ishl .u64 (x : Int) (m : Int) = ((2 ^ m * (x % 2 ^ (64 - m)) : Nat) : Int) := by
    unfold ishl
    have e2 : min (m : Int).toNat IntKind.u64.bits = m := by
      have : IntKind.u64.bits = 64 := rfl
      omega
    have e3 : (x : Int) * 2 ^ m = ((x * 2 ^ m : Nat) : Int) := by rw [Int.natCast_mul, Int.natCast_pow]; rfl
    have e4 : x * 2 ^ m % 18446744073709551616 = 2 ^ m * (x % 2 ^ (64 - m)) := by
      rw [← p64, ← pow_split (Nat.le_of_lt hm), Nat.mul_mod_mul_right, Nat.mul_comm]
    rw [e2, e3, wrap_u64, ← e4]
    omega
  have e2 : ishr .u64 (x : Int) (64 - (m : Int)) = ((x / 2 ^ (64 - m) : Nat) : Int) := by
    unfold ishr
    have e3 : min (64 - (m : Int)).toNat IntKind.u64.bits = 64 - m := by
      have : IntKind.u64.bits = 64 := rfl
      omega
    rw [e3, Int.fdiv_eq_ediv_of_nonneg _ (Int.le_of_lt (Int.pow_pos (by decide))), Int.natCast_ediv, Int.natCast_pow]; rfl
  rw [e1, e2, or_low h1 (by unfold rotN at h2; exact h2)]; rfl
theorem rot_step {x m : Nat} (hx : x < 2 ^ 64) (hm : m < 63) : rot1 (rotN x m : Int) = (rotN x (m + 1) : Int) := by
  obtain ⟨h1, h2⟩ := rot_fit hx (show m ≤ 64 by omega)
  have eQ : 2 ^ (64 - m) = 2 ^ (63 - m) * 2 := by rw [show 64 - m = 63 - m + 1 by omega, Nat.pow_succ]
  have eQ2 : 64 - (m + 1) = 63 - m := by omega
  have hPQ : 2 ^ m * 2 ^ (63 - m) = 9223372036854775808 := by
    rw [← Nat.pow_add, show m + (63 - m) = 63 by omega]
  have hr : x % 2 ^ (63 - m) < 2 ^ (63 - m) := Nat.mod_lt _ (Nat.pow_pos (by decide))
  unfold rotN at *
  rw [eQ2, eQ, Nat.mod_mul, ← Nat.div_div_eq_div_mul, Nat.pow_succ]
  rw [eQ, ← Nat.div_div_eq_div_mul] at h1
  generalize 2 ^ (63 - m) = Q at *
  generalize 2 ^ m = P at *
  generalize x % Q = r at *
  generalize x / Q = u at *
  have h3 : P * (r + 1) ≤ P * Q := Nat.mul_le_mul_left _ (by omega)
  rw [hPQ, Nat.mul_add, Nat.mul_one] at h3
  have h4 : P * (r + Q * (u % 2)) = P * r + 9223372036854775808 * (u % 2) := by rw [Nat.mul_add, ← Nat.mul_assoc, hPQ]
  have h5 : P * 2 * r = 2 * (P * r) := by rw [Nat.mul_comm P 2, Nat.mul_assoc]
  rw [h4, h5]
  generalize P * r = A at *
  unfold rot1
  rw [wrap_u64]
  rcases (show u % 2 = 0 ∨ u % 2 = 1 by omega) with h | h
  · rw [h, if_neg (by omega)]; omega
  · rw [h, if_pos (by omega)]; omega
theorem left_rot {x : Nat} (hx : x < 2 ^ 64) : ∀ n, n ≤ 63 → leftTo (x : Int) n = (rotN x n : Int)
  | 0, _ => by
    show (x : Int) = _
    unfold rotN
    have e1 : x % 2 ^ (64 - 0) = x := Nat.mod_eq_of_lt hx
    have e2 : x / 2 ^ (64 - 0) = 0 := Nat.div_eq_of_lt hx
    rw [e1, e2]; omega
  | n + 1, hn => by
    rw [leftTo, left_rot hx n (by omega), rot_step hx (by omega)]
theorem left_turn {x n : Int} (hx : 0 ≤ x ∧ x < 18446744073709551616) (hn : 0 ≤ n ∧ n < 64) : leftTo x n.toNat = turnI x n := by
  obtain ⟨y, rfl⟩ : ∃ m : Nat, x = m := ⟨x.toNat, by omega⟩
  have hy : y < 2 ^ 64 := by rw [p64]; omega
  rw [left_rot hy _ (by omega), turn_num hy (m := n.toNat) (by omega) (by omega)]
theorem turn_fit {x n : Int} (hx : 0 ≤ x ∧ x < 18446744073709551616) : 0 ≤ turnI x n ∧ turnI x n < 18446744073709551616 := by
  obtain ⟨y, rfl⟩ : ∃ m : Nat, x = m := ⟨x.toNat, by omega⟩
  have hy : y < 2 ^ 64 := by rw [p64]; omega
  have h := (rot_fit hy (m := (n % 64).toNat) (by omega)).2
  rw [turn_num hy (m := (n % 64).toNat) (by omega) (by omega)]
  rw [p64] at h
  omega
theorem ixor_fit (a b : Int) : 0 ≤ ixor .u64 a b ∧ ixor .u64 a b < 18446744073709551616 := by
  unfold ixor; rw [wrap_u64]; omega
end Go.SL.A

/- The keyed sum: turns, rounds, words' numbers. -/
namespace Go.SL.A
open Go Go.SL Go.SL.S
set_option maxRecDepth 100000

theorem pured124 (x n : Int) : Pd124 x n := by
  unfold Pd124
  have d := tdm n (k := 64) (by decide)
  have e1 : IntKind.i64.wrap (n.tmod 64 + 64) = n.tmod 64 + 64 := w64 (by omega) (by omega)
  have d2 := tdm (n.tmod 64 + 64) (k := 64) (by decide)
  have e2 : (n.tmod 64 + 64).tmod 64 = n % 64 := by omega
  have e3 : IntKind.i64.wrap (64 - n % 64) = 64 - n % 64 := w64 (by omega) (by omega)
  rw [e1, e2, e3]
  exact ⟨⟨by decide, by decide⟩, ⟨by omega, by omega⟩, rfl⟩

theorem pured123 (v : List Int) (a b n : Int) (hp : 0 ≤ a ∧ a < 4 ∧ 0 ≤ b ∧ b < 4) : Pd123 v a b n := by
  obtain ⟨h1, h2, h3, h4⟩ := hp
  unfold Pd123
  exact ⟨⟨⟨h1, by omega⟩, by omega, ⟨h3, by omega⟩, by omega, ⟨h1, by omega⟩, by omega⟩, ⟨⟨h3, by omega⟩, by omega, ⟨h1, by omega⟩, by omega, ⟨h3, by omega⟩, by omega⟩, rfl, rfl⟩

theorem pured96 (v : List Int) : Pd96 v := by
  unfold Pd96
  exact ⟨by decide, by decide, by decide, by decide, by decide, by decide, rfl, rfl⟩

theorem pured98 (v : List Int) (n : Int) (hp : 0 ≤ n ∧ n ≤ 1000) : Pd98 v n := by
  unfold Pd98
  simp only [eq_self, true_and, and_true]
  refine ⟨0, ⟨⟨rfl, rfl⟩, by omega⟩, fun i hi hw => ?_⟩
  clear hw
  by_cases h : (i : Int) < n
  · rw [decide_eq_true h, cond_true]
    exact ⟨i + 1, ⟨step_i (by omega), rfl⟩, by omega, by omega⟩
  · have : i = n.toNat := by omega
    rw [decide_eq_false h, cond_false, this]

theorem pured95 (s : ByteArray) (hp : ByteArray.size s ≤ 8) : Pd95 s := by
  unfold Pd95
  simp only [eq_self, true_and, Int.toNat_natCast]
  refine ⟨0, ⟨⟨rfl, rfl⟩, by omega⟩, fun i hi hw => ?_⟩
  clear hw
  by_cases h : (i : Int) < (ByteArray.size s : Int)
  · have hb := byte_fit s i
    have hn := num_fit s 0 i
    rw [decide_eq_true h, cond_true, w64 (n := 8 * (i : Int)) (by omega) (by omega), w_u64 hb.1 (by omega), or_byte hn hb (by omega)]
    refine ⟨⟨⟨by omega, by omega⟩, by omega⟩, i + 1, ⟨?_, step_i (by omega)⟩, by omega, by omega⟩
    rw [numTo, Nat.zero_add]
  · have : i = ByteArray.size s := by omega
    subst this
    rw [decide_eq_false h, cond_false]
    unfold wordS
    exact (num_more s 0 _ 8 hp fun j h1 _ => byte_beyond (by omega)).symm
end Go.SL.A

/- Functions do what they are held to do. -/
namespace Go.SL.A
open Go Go.SL Go.SL.S
theorem sndd124 : Sound Go.Proofs.Tryd.prog Gd124 := snd00.add ⟨_, Go.Proofs.Tryd.func127, by kernel_rfl, by kernel_rfl⟩ (by
  intro args ins out h hp
  unfold spd124 at h
  split at h
  · rename_i x n
    cases h
    exact vcFun_ok (C := Cd124) good snd00 Meth.none mix Go.Proofs.Tryd.func127 (annd124 x n) (fun hw => by rw [← vcd124 x n]; exact pured124 x n)
  · cases h)

theorem sndd123 : Sound Go.Proofs.Tryd.prog Gd123 := sndd124.add ⟨_, Go.Proofs.Tryd.func126, by kernel_rfl, by kernel_rfl⟩ (by
  intro args ins out h hp
  unfold spd123 at h
  split at h
  · rename_i a b n v
    cases h
    exact vcFun_ok (C := Cd123) good sndd124 Meth.none mix Go.Proofs.Tryd.func126 (annd123 v a b n) (fun hw => by rw [← vcd123 v a b n]; exact pured123 v a b n hp)
  · cases h)

theorem sndd96 : Sound Go.Proofs.Tryd.prog Gd96 := sndd123.add ⟨_, Go.Proofs.Tryd.func89, by kernel_rfl, by kernel_rfl⟩ (by
  intro args ins out h hp
  unfold spd96 at h
  split at h
  · rename_i v
    cases h
    exact vcFun_ok (C := Cd96) good sndd123 Meth.none mix Go.Proofs.Tryd.func89 (annd96 v) (fun hw => by rw [← vcd96 v]; exact pured96 v)
  · cases h)

theorem sndd98 : Sound Go.Proofs.Tryd.prog Gd98 := sndd96.add ⟨_, Go.Proofs.Tryd.func91, by kernel_rfl, by kernel_rfl⟩ (by
  intro args ins out h hp
  unfold spd98 at h
  split at h
  · rename_i n v
    cases h
    exact vcFun_ok (C := Cd98) good sndd96 Meth.none mix Go.Proofs.Tryd.func91 (annd98 v n) (fun hw => by rw [← vcd98 v n]; exact pured98 v n hp)
  · cases h)

theorem sndd95 : Sound Go.Proofs.Tryd.prog Gd95 := sndd98.add ⟨_, Go.Proofs.Tryd.func88, by kernel_rfl, by kernel_rfl⟩ (by
  intro args ins out h hp
  unfold spd95 at h
  split at h
  · rename_i s
    cases h
    exact vcFun_ok (C := Cd95) good sndd98 Meth.none mix Go.Proofs.Tryd.func88 (annd95 s) (fun hw => by rw [← vcd95 s]; exact pured95 s hp)
  · cases h)

end Go.SL.A

/- Functions and what they are held to do: bound to their code. -/
namespace Go.SL.A
open Go Go.SL Go.SL.S
set_option maxRecDepth 100000
noncomputable def Cd97 : Ctx := ⟨Go.Proofs.Tryd.prog, D, Gd95, (fun _ _ => none), fun _ => []⟩
def annd97 (s : ByteArray) : Nat → St → Option Ann := fun _ _ => some ⟨Nat, [4], [], fun k => [(0, .v .str (ByteArray.extract s (8 * k) (ByteArray.size s))), (3, .v (.ref .slice) (.slice 0 (.int .u64) [] 0 k))], fun k => [(0, some ⟨false, false, .int .u64, wordsTo s k⟩)], fun k => k ≤ ByteArray.size s / 8, fun k => ByteArray.size s / 8 - k⟩
def outd97 (s : ByteArray) : COut := ⟨[ByteArray.size s ≤ 1000000000], .v (.ref .slice) (.slice 0 (.int .u64) [] 0 (ByteArray.size s / 8 + 1)), [], [⟨false, false, .int .u64, wordsF s⟩]⟩
def spd97 : Spec := fun args ins => match args, ins with
  | [⟨.str, s⟩], [] => some (outd97 s)
  | _, _ => none
def Gd97 := addG Gd95 90 spd97
def Pd97 (s : ByteArray) : Prop :=
 (0:Int)≤56∧∃ (x:Nat),((s=ByteArray.extract s ((8:Nat) * x) (ByteArray.size s)∧x=0∧ishl .u64 (IntKind.wrap .u64 (↑ (ByteArray.size s):Int)) (56:Int)=ishl .u64 (IntKind.wrap .u64 (↑ (ByteArray.size s):Int)) (56:Int)∧wordsTo s x=[])∧x≤ByteArray.size
 s / 8)∧∀ (x:Nat),x≤ByteArray.size s / 8→(ByteArray.size (ByteArray.extract s ((8:Nat) * x) (ByteArray.size s))≤9223372036854775807∧∀ (y:Int),List.Mem y (wordsTo s x)→IntKind.min .u64≤y∧y≤IntKind.max .u64)→bif decide (8≤(↑ (ByteArray.size
 (ByteArray.extract s ((8:Nat) * x) (ByteArray.size s))):Int)) then ((0:Int)≤8∧8≤(↑ (ByteArray.size (ByteArray.extract s ((8:Nat) * x) (ByteArray.size s))):Int)∧ByteArray.size (ByteArray.extract (ByteArray.extract s ((8:Nat) * x) (ByteArray.size
 s)) (0:Nat) (8:Nat))≤8∧(1:Nat)≤1∧0+x=List.length (wordsTo s x)∧(x+List.length (seg (wordS (ByteArray.extract (ByteArray.extract s ((8:Nat) * x) (ByteArray.size s)) (0:Nat) (8:Nat)) (0:Nat) :: List.replicate (nat_lit 0) (0:Int)) (0:Nat)
 (1:Nat))) * 8≤70368744177664)∧((0:Int)≤8∧8≤(↑ (ByteArray.size (ByteArray.extract s ((8:Nat) * x) (ByteArray.size s))):Int))∧∃ (y:Nat),(ByteArray.extract (ByteArray.extract s ((8:Nat) * x) (ByteArray.size s)) (8:Nat) (8+((↑ (ByteArray.size
 (ByteArray.extract s ((8:Nat) * x) (ByteArray.size s))):Int).toNat - 8))=ByteArray.extract s ((8:Nat) * y) (ByteArray.size s)∧0=0∧x+List.length (seg (wordS (ByteArray.extract (ByteArray.extract s ((8:Nat) * x) (ByteArray.size s)) (0:Nat)
 (8:Nat)) (0:Nat) :: List.replicate (nat_lit 0) (0:Int)) (0:Nat) (1:Nat))=y∧ishl .u64 (IntKind.wrap .u64 (↑ (ByteArray.size s):Int)) (56:Int)=ishl .u64 (IntKind.wrap .u64 (↑ (ByteArray.size s):Int)) (56:Int)∧List.append (List.drop (0:Nat)
 (wordsTo s x)) (seg (wordS (ByteArray.extract (ByteArray.extract s ((8:Nat) * x) (ByteArray.size s)) (0:Nat) (8:Nat)) (0:Nat) :: List.replicate (nat_lit 0) (0:Int)) (0:Nat) (1:Nat))=wordsTo s y∧false=false)∧y≤ByteArray.size s / 8∧ByteArray.size
 s / 8 - y<ByteArray.size s / 8 - x else (ByteArray.size (ByteArray.extract s ((8:Nat) * x) (ByteArray.size s))≤8∧(1:Nat)≤1∧0+x=List.length (wordsTo s x)∧(x+List.length (seg (ior .u64 (wordS (ByteArray.extract s ((8:Nat) * x) (ByteArray.size
 s)) (0:Nat)) (ishl .u64 (IntKind.wrap .u64 (↑ (ByteArray.size s):Int)) (56:Int)) :: List.replicate (nat_lit 0) (0:Int)) (0:Nat) (1:Nat))) * 8≤70368744177664)∧0=0∧x+List.length (seg (ior .u64 (wordS (ByteArray.extract s ((8:Nat) * x)
 (ByteArray.size s)) (0:Nat)) (ishl .u64 (IntKind.wrap .u64 (↑ (ByteArray.size s):Int)) (56:Int)) :: List.replicate (nat_lit 0) (0:Int)) (0:Nat) (1:Nat))=ByteArray.size s / 8+1∧List.append (List.drop (0:Nat) (wordsTo s x)) (seg (ior
 .u64 (wordS (ByteArray.extract s ((8:Nat) * x) (ByteArray.size s)) (0:Nat)) (ishl .u64 (IntKind.wrap .u64 (↑ (ByteArray.size s):Int)) (56:Int)) :: List.replicate (nat_lit 0) (0:Int)) (0:Nat) (1:Nat))=wordsF s∧false=false
theorem vcd97 (s : ByteArray) : Pd97 s = vcFun Cd97 (annd97 s) Go.Proofs.Tryd.f90 [⟨.str, s⟩] [] (outd97 s) := by kernel_rfl

noncomputable def Cd120 : Ctx := ⟨Go.Proofs.Tryd.prog, D, Gd97, (fun _ _ => none), fun _ => []⟩
def annd120 (x n : Int) : Nat → St → Option Ann := fun _ _ => some ⟨Nat, [1], [], fun i => [(5, .v (.int .i64) (i : Int)), (0, .v (.int .u64) (leftTo x i))], fun _ => [], fun i => i ≤ n.toNat, fun i => n.toNat - i⟩
def outd120 (x n : Int) : COut := ⟨[0 ≤ n ∧ n < 64], .v (.int .u64) (turnI x n), [], []⟩
def spd120 : Spec := fun args ins => match args, ins with
  | [⟨.int .u64, x⟩, ⟨.int .i64, n⟩], [] => some (outd120 x n)
  | _, _ => none
def Gd120 := addG Gd97 156 spd120
def Pd120 (x n : Int) : Prop :=
 ∃ (x_1:Nat),((x=leftTo x x_1∧n=n∧0=(x_1:Int))∧x_1≤n.toNat)∧∀ (x_2:Nat),x_2≤n.toNat→IntKind.min .i64≤(x_2:Int)∧(x_2:Int)≤IntKind.max .i64∧IntKind.min .u64≤leftTo x x_2∧leftTo x x_2≤IntKind.max .u64→bif decide ((x_2:Int)<n) then bif decide
 (9223372036854775808≤leftTo x x_2) then ∃ (y:Nat),(IntKind.wrap .u64 (IntKind.wrap .u64 ((2:Int) * leftTo x x_2)+1)=leftTo x y∧n=n∧IntKind.wrap .i64 ((x_2:Int)+1)=(y:Int))∧y≤n.toNat∧n.toNat - y<n.toNat - x_2 else ∃ (y:Nat),(IntKind.wrap
 .u64 ((2:Int) * leftTo x x_2)=leftTo x y∧n=n∧IntKind.wrap .i64 ((x_2:Int)+1)=(y:Int))∧y≤n.toNat∧n.toNat - y<n.toNat - x_2 else leftTo x x_2=turnI x n
theorem vcd120 (x n : Int) : Pd120 x n = vcFun Cd120 (annd120 x n) Go.Proofs.Tryd.f156 [⟨.int .u64, x⟩, ⟨.int .i64, n⟩] [] (outd120 x n) := by kernel_rfl

noncomputable def Cd91 : Ctx := ⟨Go.Proofs.Tryd.prog, D, Gd120, (fun _ _ => none), fun _ => []⟩
def annd91 (s : ByteArray) (a : Int) : Nat → St → Option Ann := fun _ _ => some ⟨Nat, [0, 1], [], fun k => [(6, .v (.int .i64) (7 - (k : Int))), (5, .v (.int .u64) (numTo s (a.toNat + 8 - k) k))], fun _ => [], fun k => k ≤ 8, fun k => 8 - k⟩
def outd91 (s : ByteArray) (a : Int) : COut := ⟨[0 ≤ a ∧ a ≤ 1000000000], .v (.int .u64) (wordS s a.toNat), [], []⟩
def spd91 : Spec := fun args ins => match args, ins with
  | [⟨.str, s⟩, ⟨.int .i64, a⟩], [] => some (outd91 s a)
  | _, _ => none
def Gd91 := addG Gd120 131 spd91
def Pd91 (s : ByteArray) (a : Int) : Prop :=
 ∃ (x:Nat),((s=s∧a=a∧0=numTo s (a.toNat+8 - x) x∧(7:Int)=7 - (x:Int))∧x≤8)∧∀ (x:Nat),x≤8→IntKind.min .i64≤7 - (x:Int)∧7 - (x:Int)≤IntKind.max .i64∧IntKind.min .u64≤numTo s (a.toNat+8 - x) x∧numTo s (a.toNat+8 - x) x≤IntKind.max .u64→bif
 decide ((0:Int)≤7 - (x:Int)) then bif decide (IntKind.wrap .i64 (a+(7 - (x:Int)))<(↑ (ByteArray.size s):Int)) then (0≤IntKind.wrap .i64 (a+(7 - (x:Int)))∧IntKind.wrap .i64 (a+(7 - (x:Int)))<(↑ (ByteArray.size s):Int))∧∃ (y:Nat),(s=s∧a=a∧IntKind.wrap
 .u64 (IntKind.wrap .u64 ((256:Int) * numTo s (a.toNat+8 - x) x)+IntKind.wrap .u64 (byteAt s (IntKind.wrap .i64 (a+(7 - (x:Int)))).toNat))=numTo s (a.toNat+8 - y) y∧IntKind.wrap .i64 (7 - (x:Int) - 1)=7 - (y:Int))∧y≤8∧8 - y<8 - x else
 ∃ (y:Nat),(s=s∧a=a∧IntKind.wrap .u64 ((256:Int) * numTo s (a.toNat+8 - x) x)=numTo s (a.toNat+8 - y) y∧IntKind.wrap .i64 (7 - (x:Int) - 1)=7 - (y:Int))∧y≤8∧8 - y<8 - x else numTo s (a.toNat+8 - x) x=wordS s a.toNat
theorem vcd91 (s : ByteArray) (a : Int) : Pd91 s a = vcFun Cd91 (annd91 s a) Go.Proofs.Tryd.f131 [⟨.str, s⟩, ⟨.int .i64, a⟩] [] (outd91 s a) := by kernel_rfl

noncomputable def Cd92 : Ctx := ⟨Go.Proofs.Tryd.prog, D, Gd91, (fun _ _ => none), fun _ => []⟩
def annd92 (s : ByteArray) : Nat → St → Option Ann := fun _ _ => some ⟨Nat, [0, 4], [], fun k => [(5, .v (.int .i64) (k : Int)), (3, .v (.ref .slice) (.slice 0 (.int .u64) [] 0 k))], fun k => [(0, some ⟨false, false, .int .u64, wordsTo s k⟩)], fun k => k ≤ ByteArray.size s / 8, fun k => ByteArray.size s / 8 - k⟩
def outd92 (s : ByteArray) : COut := ⟨[ByteArray.size s ≤ 1000000000], .v (.ref .slice) (.slice 0 (.int .u64) [] 0 (ByteArray.size s / 8 + 1)), [], [⟨false, false, .int .u64, wordsF s⟩]⟩
def spd92 : Spec := fun args ins => match args, ins with
  | [⟨.str, s⟩], [] => some (outd92 s)
  | _, _ => none
def Gd92 := addG Gd91 132 spd92
def Pd92 (s : ByteArray) : Prop :=
 (8:Int)≠0∧∃ (x:Nat),((s=s∧x=0∧IntKind.wrap .i64 (Int.tdiv (↑ (ByteArray.size s):Int) (8:Int))=IntKind.wrap .i64 (Int.tdiv (↑ (ByteArray.size s):Int) (8:Int))∧0=(x:Int)∧wordsTo s x=[])∧x≤ByteArray.size s / 8)∧∀ (x:Nat),x≤ByteArray.size
 s / 8→(IntKind.min .i64≤(x:Int)∧(x:Int)≤IntKind.max .i64∧∀ (y:Int),List.Mem y (wordsTo s x)→IntKind.min .u64≤y∧y≤IntKind.max .u64)→bif decide ((x:Int)<IntKind.wrap .i64 (Int.tdiv (↑ (ByteArray.size s):Int) (8:Int))) then ((0≤IntKind.wrap
 .i64 ((8:Int) * (x:Int))∧IntKind.wrap .i64 ((8:Int) * (x:Int))≤1000000000)∧(1:Nat)≤1∧0+x=List.length (wordsTo s x)∧(x+List.length (seg (wordS s (IntKind.wrap .i64 ((8:Int) * (x:Int))).toNat :: List.replicate (nat_lit 0) (0:Int)) (0:Nat)
 (1:Nat))) * 8≤70368744177664)∧∃ (y:Nat),(s=s∧0=0∧x+List.length (seg (wordS s (IntKind.wrap .i64 ((8:Int) * (x:Int))).toNat :: List.replicate (nat_lit 0) (0:Int)) (0:Nat) (1:Nat))=y∧IntKind.wrap .i64 (Int.tdiv (↑ (ByteArray.size s):Int)
 (8:Int))=IntKind.wrap .i64 (Int.tdiv (↑ (ByteArray.size s):Int) (8:Int))∧IntKind.wrap .i64 ((x:Int)+1)=(y:Int)∧List.append (List.drop (0:Nat) (wordsTo s x)) (seg (wordS s (IntKind.wrap .i64 ((8:Int) * (x:Int))).toNat :: List.replicate
 (nat_lit 0) (0:Int)) (0:Nat) (1:Nat))=wordsTo s y∧false=false)∧y≤ByteArray.size s / 8∧ByteArray.size s / 8 - y<ByteArray.size s / 8 - x else (0≤IntKind.wrap .i64 ((8:Int) * IntKind.wrap .i64 (Int.tdiv (↑ (ByteArray.size s):Int) (8:Int)))∧IntKind.wrap
 .i64 ((8:Int) * IntKind.wrap .i64 (Int.tdiv (↑ (ByteArray.size s):Int) (8:Int)))≤1000000000)∧(256:Int)≠0∧((1:Nat)≤1∧0+x=List.length (wordsTo s x)∧(x+List.length (seg (IntKind.wrap .u64 (wordS s (IntKind.wrap .i64 ((8:Int) * IntKind.wrap
 .i64 (Int.tdiv (↑ (ByteArray.size s):Int) (8:Int)))).toNat+IntKind.wrap .u64 (IntKind.wrap .u64 (Int.tmod (↑ (ByteArray.size s):Int) (256:Int)) * 72057594037927936)) :: List.replicate (nat_lit 0) (0:Int)) (0:Nat) (1:Nat))) * 8≤70368744177664)∧0=0∧x+List.length
 (seg (IntKind.wrap .u64 (wordS s (IntKind.wrap .i64 ((8:Int) * IntKind.wrap .i64 (Int.tdiv (↑ (ByteArray.size s):Int) (8:Int)))).toNat+IntKind.wrap .u64 (IntKind.wrap .u64 (Int.tmod (↑ (ByteArray.size s):Int) (256:Int)) * 72057594037927936))
 :: List.replicate (nat_lit 0) (0:Int)) (0:Nat) (1:Nat))=ByteArray.size s / 8+1∧List.append (List.drop (0:Nat) (wordsTo s x)) (seg (IntKind.wrap .u64 (wordS s (IntKind.wrap .i64 ((8:Int) * IntKind.wrap .i64 (Int.tdiv (↑ (ByteArray.size
 s):Int) (8:Int)))).toNat+IntKind.wrap .u64 (IntKind.wrap .u64 (Int.tmod (↑ (ByteArray.size s):Int) (256:Int)) * 72057594037927936)) :: List.replicate (nat_lit 0) (0:Int)) (0:Nat) (1:Nat))=wordsF s∧false=false
theorem vcd92 (s : ByteArray) : Pd92 s = vcFun Cd92 (annd92 s) Go.Proofs.Tryd.f132 [⟨.str, s⟩] [] (outd92 s) := by kernel_rfl

noncomputable def Cd93 : Ctx := ⟨Go.Proofs.Tryd.prog, D, Gd92, (fun _ _ => none), fun _ => []⟩
def annd93 (_v : List Int) : Nat → St → Option Ann := fun _ _ => none
def outd93 (v : List Int) : COut := ⟨[], .v (.arr 4 (.int .u64)) (rndF v), [], []⟩
def spd93 : Spec := fun args ins => match args, ins with
  | [⟨.arr 4 (.int .u64), v⟩], [] => some (outd93 v)
  | _, _ => none
def Gd93 := addG Gd92 133 spd93
def Pd93 (v : List Int) : Prop :=
 (((0:Int)≤0∧0<(↑ (4:Nat):Int))∧(0:Nat)<4∧((0:Int)≤1∧1<(↑ (4:Nat):Int))∧(1:Nat)<4∧((0:Int)≤2∧2<(↑ (4:Nat):Int))∧(2:Nat)<4∧((0:Int)≤3∧3<(↑ (4:Nat):Int))∧(3:Nat)<4)∧((0:Int)≤13∧(13:Int)<64)∧((0:Int)≤32∧(32:Int)<64)∧((0:Int)≤16∧(16:Int)<64)∧((0:Int)≤21∧(21:Int)<64)∧((0:Int)≤17∧(17:Int)<64)∧((0:Int)≤32∧(32:Int)<64)∧IntKind.wrap
 .u64 (turnI (IntKind.wrap .u64 (List.getD v (0:Nat) (0:Int)+List.getD v (1:Nat) (0:Int))) (32:Int)+ixor .u64 (turnI (List.getD v (3:Nat) (0:Int)) (16:Int)) (IntKind.wrap .u64 (List.getD v (2:Nat) (0:Int)+List.getD v (3:Nat) (0:Int))))
 :: List.set (List.set (List.set (List.replicate (nat_lit 3) (0:Int)) (nat_lit 0) (ixor .u64 (turnI (ixor .u64 (turnI (List.getD v (1:Nat) (0:Int)) (13:Int)) (IntKind.wrap .u64 (List.getD v (0:Nat) (0:Int)+List.getD v (1:Nat) (0:Int))))
 (17:Int)) (IntKind.wrap .u64 (IntKind.wrap .u64 (List.getD v (2:Nat) (0:Int)+List.getD v (3:Nat) (0:Int))+ixor .u64 (turnI (List.getD v (1:Nat) (0:Int)) (13:Int)) (IntKind.wrap .u64 (List.getD v (0:Nat) (0:Int)+List.getD v (1:Nat) (0:Int)))))))
 (nat_lit 1) (turnI (IntKind.wrap .u64 (IntKind.wrap .u64 (List.getD v (2:Nat) (0:Int)+List.getD v (3:Nat) (0:Int))+ixor .u64 (turnI (List.getD v (1:Nat) (0:Int)) (13:Int)) (IntKind.wrap .u64 (List.getD v (0:Nat) (0:Int)+List.getD v
 (1:Nat) (0:Int))))) (32:Int))) (nat_lit 2) (ixor .u64 (turnI (ixor .u64 (turnI (List.getD v (3:Nat) (0:Int)) (16:Int)) (IntKind.wrap .u64 (List.getD v (2:Nat) (0:Int)+List.getD v (3:Nat) (0:Int)))) (21:Int)) (IntKind.wrap .u64 (turnI
 (IntKind.wrap .u64 (List.getD v (0:Nat) (0:Int)+List.getD v (1:Nat) (0:Int))) (32:Int)+ixor .u64 (turnI (List.getD v (3:Nat) (0:Int)) (16:Int)) (IntKind.wrap .u64 (List.getD v (2:Nat) (0:Int)+List.getD v (3:Nat) (0:Int))))))=rndF v
theorem vcd93 (v : List Int) : Pd93 v = vcFun Cd93 (annd93 v) Go.Proofs.Tryd.f133 [⟨.arr 4 (.int .u64), v⟩] [] (outd93 v) := by kernel_rfl

end Go.SL.A

/- The keyed sum: words. -/
namespace Go.SL.A
open Go Go.SL Go.SL.S
set_option maxRecDepth 100000

theorem word_ext (s : ByteArray) (a : Nat) : wordS (ByteArray.extract s a (ByteArray.size s)) 0 = wordS s a := by
  unfold wordS
  refine num_congr fun i _ => ?_
  rw [Nat.zero_add]
  by_cases h : a + i < ByteArray.size s
  · exact byte_ext s a _ i h
  · rw [byte_beyond (s := s) (by omega), byte_beyond (by rw [ByteArray.size_extract]; omega)]
theorem word_ext8 (s : ByteArray) : wordS (ByteArray.extract s 0 8) 0 = wordS s 0 := by
  unfold wordS
  refine num_congr fun i hi => ?_
  have := byte_ext s 0 8 i (by omega)
  rw [Nat.zero_add] at this ⊢
  exact this
theorem wordsTo_len (s : ByteArray) (n : Nat) : (wordsTo s n).length = n := by simp [wordsTo]
theorem wordsTo_step (s : ByteArray) (n : Nat) : wordsTo s n ++ [wordS s (8 * n)] = wordsTo s (n + 1) := by
  unfold wordsTo
  rw [List.range_succ, List.map_append]; rfl
theorem segW (w : Int) : seg (w :: List.replicate 0 0) 0 1 = [w] := rfl
theorem last_fit (s : ByteArray) : 0 ≤ wordS s (8 * (ByteArray.size s / 8)) ∧ wordS s (8 * (ByteArray.size s / 8)) < 72057594037927936 := by
  have h := num_fit s (8 * (ByteArray.size s / 8)) 7
  have e : (256 : Int) ^ 7 = 72057594037927936 := by decide
  rw [e] at h
  unfold wordS
  rw [num_more s _ 7 8 (by omega) fun i h1 h2 => byte_beyond (by omega)]
  exact h

theorem pured97 (s : ByteArray) (hp : ByteArray.size s ≤ 1000000000) : Pd97 s := by
  unfold Pd97
  simp only [eq_self, true_and, and_true, Nat.zero_add, segW, wordsTo_len, List.length_singleton, Int.toNat_natCast]
  refine ⟨by decide, 0, ⟨⟨?_, rfl, rfl⟩, by omega⟩, fun k hk hw => ?_⟩
  · rw [Nat.mul_zero]; exact ByteArray.extract_zero_size.symm
  clear hw
  have hsz : ByteArray.size (ByteArray.extract s (8 * k) (ByteArray.size s)) = ByteArray.size s - 8 * k := by rw [ByteArray.size_extract]; omega
  have hx := word_ext s (8 * k)
  by_cases h : (8 : Int) ≤ (ByteArray.size (ByteArray.extract s (8 * k) (ByteArray.size s)) : Int)
  · have h8 : 8 * k + 8 ≤ ByteArray.size s := by omega
    rw [decide_eq_true h, cond_true, word_ext8, hx]
    refine ⟨⟨by omega, h, by rw [ByteArray.size_extract]; omega, by omega, by omega⟩, ⟨by omega, h⟩, k + 1, ⟨?_, rfl, ?_⟩, by omega, by omega⟩
    · rw [hsz, ByteArray.extract_extract, show 8 * k + 8 = 8 * (k + 1) by omega]
      congr 1; omega
    · show List.drop 0 (wordsTo s k) ++ [wordS s (8 * k)] = _
      rw [List.drop_zero, wordsTo_step]
  · have hk2 : k = ByteArray.size s / 8 := by omega
    subst hk2
    rw [decide_eq_false h, cond_false, hx]
    have hl := last_fit s
    rw [or_len hl]
    refine ⟨⟨by omega, by omega, by omega⟩, rfl, ?_⟩
    show List.drop 0 (wordsTo s (ByteArray.size s / 8)) ++ [_] = _
    rw [List.drop_zero]; rfl

theorem hwd120 {x n : Int} (hw : Go.SL.allP (List.flatMap (fun a : AV => a.t.wf a.x) [⟨.int .u64, x⟩, ⟨.int .i64, n⟩] ++ List.flatMap Blk.wf [])) : 0 ≤ x ∧ x < 18446744073709551616 := by
  simp only [List.flatMap_cons, List.flatMap_nil, Ty.wf, List.append_nil, List.cons_append, List.nil_append, Go.SL.allP] at hw
  have h1 : (0 : Int) ≤ x := hw.1
  have h2 : x ≤ 18446744073709551615 := hw.2.1
  omega
theorem left_fit {x : Int} (hx : 0 ≤ x ∧ x < 18446744073709551616) : ∀ n, n ≤ 63 → 0 ≤ leftTo x n ∧ leftTo x n < 18446744073709551616 := fun n hn => by
  have := left_turn hx (n := (n : Int)) (by omega)
  rw [Int.toNat_natCast] at this
  rw [this]; exact turn_fit hx
theorem pured120 (x n : Int) (hp : 0 ≤ n ∧ n < 64) (hx : 0 ≤ x ∧ x < 18446744073709551616) : Pd120 x n := by
  unfold Pd120
  simp only [eq_self, true_and]
  refine ⟨0, ⟨⟨rfl, rfl⟩, by omega⟩, fun i hi hw => ?_⟩
  clear hw
  by_cases h : (i : Int) < n
  · rw [decide_eq_true h, cond_true]
    have hf := left_fit hx i (by omega)
    have hs : leftTo x (i + 1) = IntKind.u64.wrap (2 * leftTo x i) + (if 9223372036854775808 ≤ leftTo x i then 1 else 0) := rfl
    generalize leftTo x i = y at *
    by_cases ht : 9223372036854775808 ≤ y
    · rw [if_pos ht] at hs
      rw [decide_eq_true ht, cond_true]
      exact ⟨i + 1, ⟨by rw [hs, wrap_u64, wrap_u64]; omega, step_i (by omega)⟩, by omega, by omega⟩
    · rw [if_neg ht, Int.add_zero] at hs
      rw [decide_eq_false ht, cond_false]
      exact ⟨i + 1, ⟨hs.symm, step_i (by omega)⟩, by omega, by omega⟩
  · have : i = n.toNat := by omega
    rw [decide_eq_false h, cond_false, this]
    exact left_turn hx hp

theorem pured91 (s : ByteArray) (a : Int) (hp : 0 ≤ a ∧ a ≤ 1000000000) : Pd91 s a := by
  unfold Pd91
  simp only [eq_self, true_and]
  refine ⟨0, ⟨⟨rfl, by omega⟩, by omega⟩, fun k hk hw => ?_⟩
  clear hw
  by_cases h : (0 : Int) ≤ 7 - (k : Int)
  · have hk7 : k ≤ 7 := by omega
    have e1 : IntKind.i64.wrap (a + (7 - (k : Int))) = a + (7 - (k : Int)) := w64 (by omega) (by omega)
    have e2 : (a + (7 - (k : Int))).toNat = a.toNat + 8 - (k + 1) := by omega
    have e3 : IntKind.i64.wrap (7 - (k : Int) - 1) = 7 - ((k + 1 : Nat) : Int) := by rw [w64 (by omega) (by omega)]; omega
    have hl := num_low s (a.toNat + 8 - (k + 1)) k
    rw [show a.toNat + 8 - (k + 1) + 1 = a.toNat + 8 - k by omega] at hl
    have hb := byte_fit s (a.toNat + 8 - (k + 1))
    have hn := num_fit s (a.toNat + 8 - (k + 1)) (k + 1)
    have hp8 : (256 : Int) ^ (k + 1) ≤ 18446744073709551616 := by
      have h1 : 256 ^ (k + 1) ≤ 256 ^ 8 := Nat.pow_le_pow_right (by decide) (by omega)
      have h2 : (256 : Int) ^ (k + 1) = ((256 ^ (k + 1) : Nat) : Int) := by simp
      have h3 : (256 : Nat) ^ 8 = 18446744073709551616 := by decide
      rw [h2]; omega
    rw [decide_eq_true h, cond_true, e1, e2, e3]
    have hbe : ByteArray.size s ≤ a.toNat + 8 - (k + 1) → byteAt s (a.toNat + 8 - (k + 1)) = 0 := fun h => byte_beyond h
    generalize byteAt s (a.toNat + 8 - (k + 1)) = b at *
    generalize hN : numTo s (a.toNat + 8 - (k + 1)) (k + 1) = N at *
    have hn2 := num_fit s (a.toNat + 8 - k) k
    generalize numTo s (a.toNat + 8 - k) k = M at *
    by_cases h2 : a + (7 - (k : Int)) < (ByteArray.size s : Int)
    · rw [decide_eq_true h2, cond_true]
      refine ⟨⟨by omega, h2⟩, k + 1, ⟨?_, rfl⟩, by omega, by omega⟩
      rw [hN, w_u64 (x := 256 * M) (by omega) (by omega), w_u64 (x := b) (by omega) (by omega), w_u64 (by omega) (by omega)]
      exact hl.symm
    · rw [decide_eq_false h2, cond_false]
      have hb0 := hbe (by omega)
      refine ⟨k + 1, ⟨?_, rfl⟩, by omega, by omega⟩
      rw [hN, w_u64 (x := 256 * M) (by omega) (by omega)]
      omega
  · have : k = 8 := by omega
    subst this
    rw [decide_eq_false h, cond_false]
    unfold wordS
    rw [Nat.add_sub_cancel]

theorem pured92 (s : ByteArray) (hp : ByteArray.size s ≤ 1000000000) : Pd92 s := by
  unfold Pd92
  have d := tdm (ByteArray.size s : Int) (k := 8) (by decide)
  have d2 := tdm (ByteArray.size s : Int) (k := 256) (by decide)
  have e1 : IntKind.i64.wrap ((ByteArray.size s : Int).tdiv 8) = ((ByteArray.size s / 8 : Nat) : Int) := by rw [w64 (by omega) (by omega)]; omega
  have e2 : IntKind.i64.wrap (8 * ((ByteArray.size s / 8 : Nat) : Int)) = ((8 * (ByteArray.size s / 8) : Nat) : Int) := by rw [w64 (by omega) (by omega)]; omega
  have e3 : IntKind.u64.wrap ((ByteArray.size s : Int).tmod 256) = ((ByteArray.size s % 256 : Nat) : Int) := by rw [w_u64 (by omega) (by omega)]; omega
  have hl := last_fit s
  have e4 : IntKind.u64.wrap (((ByteArray.size s % 256 : Nat) : Int) * 72057594037927936) = ((ByteArray.size s % 256 : Nat) : Int) * 72057594037927936 := w_u64 (by omega) (by omega)
  have e5 : IntKind.u64.wrap (wordS s (8 * (ByteArray.size s / 8)) + ((ByteArray.size s % 256 : Nat) : Int) * 72057594037927936) = lastW s := w_u64 (by omega) (by omega)
  simp only [eq_self, true_and, and_true, Nat.zero_add, segW, wordsTo_len, List.length_singleton, e1, e2, e3, e4, Int.toNat_natCast, e5]
  refine ⟨by decide, 0, ⟨⟨rfl, rfl, rfl⟩, by omega⟩, fun k hk hw => ?_⟩
  clear hw
  by_cases h : (k : Int) < ((ByteArray.size s / 8 : Nat) : Int)
  · have e6 : IntKind.i64.wrap (8 * (k : Int)) = ((8 * k : Nat) : Int) := by rw [w64 (by omega) (by omega)]; omega
    rw [decide_eq_true h, cond_true, e6, Int.toNat_natCast]
    refine ⟨⟨⟨by omega, by omega⟩, by omega, by omega⟩, k + 1, ⟨rfl, by rw [w64 (by omega) (by omega)]; omega, ?_⟩, by omega, by omega⟩
    show List.drop 0 (wordsTo s k) ++ [wordS s (8 * k)] = _
    rw [List.drop_zero, wordsTo_step]
  · have hk2 : k = ByteArray.size s / 8 := by omega
    rw [decide_eq_false h, cond_false, hk2]
    refine ⟨⟨by omega, by omega⟩, by decide, ⟨by omega, by omega⟩, rfl, ?_⟩
    show List.drop 0 (wordsTo s (ByteArray.size s / 8)) ++ [lastW s] = _
    rw [List.drop_zero]; rfl

theorem hwd93 {v : List Int} (hw : Go.SL.allP (List.flatMap (fun a : AV => a.t.wf a.x) [⟨.arr 4 (.int .u64), v⟩] ++ List.flatMap Blk.wf [])) : v.length = 4 := by
  simp only [List.flatMap_cons, List.flatMap_nil, Ty.wf, List.append_nil, Go.SL.allP] at hw
  exact hw.1
theorem pured93 (v : List Int) (hl : v.length = 4) : Pd93 v := by
  unfold Pd93
  match v, hl with
  | [a, b, c, d], _ =>
    simp only
    refine ⟨by decide, ⟨by decide, by decide⟩, ⟨by decide, by decide⟩, ⟨by decide, by decide⟩, ⟨by decide, by decide⟩, ⟨by decide, by decide⟩, ⟨by decide, by decide⟩, rfl⟩
end Go.SL.A

/- Functions do what they are held to do. -/
namespace Go.SL.A
open Go Go.SL Go.SL.S
theorem sndd97 : Sound Go.Proofs.Tryd.prog Gd97 := sndd95.add ⟨_, Go.Proofs.Tryd.func90, by kernel_rfl, by kernel_rfl⟩ (by
  intro args ins out h hp
  unfold spd97 at h
  split at h
  · rename_i s
    cases h
    exact vcFun_ok (C := Cd97) good sndd95 Meth.none mix Go.Proofs.Tryd.func90 (annd97 s) (fun hw => by rw [← vcd97 s]; exact pured97 s hp)
  · cases h)

theorem sndd120 : Sound Go.Proofs.Tryd.prog Gd120 := sndd97.add ⟨_, Go.Proofs.Tryd.func156, by kernel_rfl, by kernel_rfl⟩ (by
  intro args ins out h hp
  unfold spd120 at h
  split at h
  · rename_i x n
    cases h
    exact vcFun_ok (C := Cd120) good sndd97 Meth.none mix Go.Proofs.Tryd.func156 (annd120 x n) (fun hw => by rw [← vcd120 x n]; exact pured120 x n hp (hwd120 hw))
  · cases h)

theorem sndd91 : Sound Go.Proofs.Tryd.prog Gd91 := sndd120.add ⟨_, Go.Proofs.Tryd.func131, by kernel_rfl, by kernel_rfl⟩ (by
  intro args ins out h hp
  unfold spd91 at h
  split at h
  · rename_i s a
    cases h
    exact vcFun_ok (C := Cd91) good sndd120 Meth.none mix Go.Proofs.Tryd.func131 (annd91 s a) (fun hw => by rw [← vcd91 s a]; exact pured91 s a hp)
  · cases h)

theorem sndd92 : Sound Go.Proofs.Tryd.prog Gd92 := sndd91.add ⟨_, Go.Proofs.Tryd.func132, by kernel_rfl, by kernel_rfl⟩ (by
  intro args ins out h hp
  unfold spd92 at h
  split at h
  · rename_i s
    cases h
    exact vcFun_ok (C := Cd92) good sndd91 Meth.none mix Go.Proofs.Tryd.func132 (annd92 s) (fun hw => by rw [← vcd92 s]; exact pured92 s hp)
  · cases h)

theorem sndd93 : Sound Go.Proofs.Tryd.prog Gd93 := sndd92.add ⟨_, Go.Proofs.Tryd.func133, by kernel_rfl, by kernel_rfl⟩ (by
  intro args ins out h hp
  unfold spd93 at h
  split at h
  · rename_i v
    cases h
    exact vcFun_ok (C := Cd93) good sndd92 Meth.none mix Go.Proofs.Tryd.func133 (annd93 v) (fun hw => by rw [← vcd93 v]; exact pured93 v (hwd93 hw))
  · cases h)

end Go.SL.A

/- Functions and what they are held to do: bound to their code. -/
namespace Go.SL.A
open Go Go.SL Go.SL.S
set_option maxRecDepth 100000
noncomputable def Cd76 : Ctx := ⟨Go.Proofs.Tryd.prog, D, Gd93, (fun _ _ => none), fun _ => []⟩
def annd76 (k : List Int) (s : ByteArray) : Nat → St → Option Ann := fun _ _ => some ⟨Nat, [7, 8, 36, 37], [2], fun i => [(38, .v (.int .i64) (i : Int))], fun i => [(1, some ⟨false, true, .arr 4 (.int .u64), [sipS k s i]⟩)], fun i => i ≤ ByteArray.size s / 8 + 1, fun i => ByteArray.size s / 8 + 1 - i⟩
def outd76 (k : List Int) (s : ByteArray) : COut := ⟨[ByteArray.size s ≤ 1000000000], .v (.int .u64) (sipF k s), [], []⟩
def spd76 : Spec := fun args ins => match args, ins with
  | [⟨.arr 16 (.int .u8), k⟩, ⟨.str, s⟩], [] => some (outd76 k s)
  | _, _ => none
def Gd76 := addG Gd93 47 spd76
def Pd76 (k : List Int) (s : ByteArray) : Prop :=
 ((0:Int)≤8∧8≤(↑ (16:Nat):Int)∧(16:Nat)≤9223372036854775807∧8≤List.length k∧ByteArray.size (bytesOf (seg k (0:Nat) (8:Nat)))≤8∧(0:Int)≤8∧8≤(↑ (16:Nat):Int)∧(16:Nat)≤9223372036854775807∧16≤List.length k∧ByteArray.size (bytesOf (seg k
 (8:Nat) (8:Nat)))≤8)∧(((0:Int)≤0∧0<(↑ (4:Nat):Int))∧(0:Nat)<4∧((0:Int)≤1∧1<(↑ (4:Nat):Int))∧(1:Nat)<4∧((0:Int)≤2∧2<(↑ (4:Nat):Int))∧(2:Nat)<4∧((0:Int)≤3∧3<(↑ (4:Nat):Int))∧(3:Nat)<4)∧ByteArray.size s≤1000000000∧∃ (x:Nat),((0=0∧0=0∧0=0∧ByteArray.size
 s / 8+1=ByteArray.size s / 8+1∧(↑ (ByteArray.size s / 8+1):Int)=(↑ (ByteArray.size s / 8+1):Int)∧0=(x:Int)∧ixor .u64 (wordS (bytesOf (seg k (0:Nat) (8:Nat))) (0:Nat)) (List.getD sgL (0:Nat) (0:Int)) :: List.set (List.set (List.set (List.replicate
 (nat_lit 3) (0:Int)) (nat_lit 0) (ixor .u64 (wordS (bytesOf (seg k (8:Nat) (8:Nat))) (0:Nat)) (List.getD sgL (1:Nat) (0:Int)))) (nat_lit 1) (ixor .u64 (wordS (bytesOf (seg k (0:Nat) (8:Nat))) (0:Nat)) (List.getD sgL (2:Nat) (0:Int))))
 (nat_lit 2) (ixor .u64 (wordS (bytesOf (seg k (8:Nat) (8:Nat))) (0:Nat)) (List.getD sgL (3:Nat) (0:Int)))=sipS k s x∧false=false∧wordsF s=wordsF s∧false=false)∧x≤ByteArray.size s / 8+1)∧∀ (x:Nat),x≤ByteArray.size s / 8+1→(IntKind.min
 .i64≤(x:Int)∧(x:Int)≤IntKind.max .i64∧∀ (y:List Int),List.Mem y [sipS k s x]→List.length y=4∧∀ (y_1:Int),List.Mem y_1 y→IntKind.min .u64≤y_1∧y_1≤IntKind.max .u64)→bif decide ((x:Int)<(↑ (ByteArray.size s / 8+1):Int)) then ((0≤(x:Int)∧(x:Int)<(↑
 (ByteArray.size s / 8+1):Int))∧0+(x:Int).toNat<List.length (wordsF s))∧(((0:Int)≤3∧3<(↑ (4:Nat):Int))∧(3:Nat)<4∧((0:Int)≤3∧3<(↑ (4:Nat):Int))∧(3:Nat)<4)∧((0:Int)≤2∧(2:Int)≤1000)∧(((0:Int)≤0∧0<(↑ (4:Nat):Int))∧(0:Nat)<4∧((0:Int)≤0∧0<(↑
 (4:Nat):Int))∧(0:Nat)<4)∧∃ (y:Nat),(0=0∧0=0∧0=0∧ByteArray.size s / 8+1=ByteArray.size s / 8+1∧(↑ (ByteArray.size s / 8+1):Int)=(↑ (ByteArray.size s / 8+1):Int)∧IntKind.wrap .i64 ((x:Int)+1)=(y:Int)∧List.set (rndN (List.set (sipS k s
 x) (3:Nat) (ixor .u64 (List.getD (sipS k s x) (3:Nat) (0:Int)) (List.getD (wordsF s) (0+(x:Int).toNat) (0:Int)))) (2:Nat)) (0:Nat) (ixor .u64 (List.getD (rndN (List.set (sipS k s x) (3:Nat) (ixor .u64 (List.getD (sipS k s x) (3:Nat)
 (0:Int)) (List.getD (wordsF s) (0+(x:Int).toNat) (0:Int)))) (2:Nat)) (0:Nat) (0:Int)) (List.getD (wordsF s) (0+(x:Int).toNat) (0:Int)))=sipS k s y∧false=false∧wordsF s=wordsF s∧false=false)∧y≤ByteArray.size s / 8+1∧ByteArray.size s
 / 8+1 - y<ByteArray.size s / 8+1 - x else (((0:Int)≤2∧2<(↑ (4:Nat):Int))∧(2:Nat)<4∧((0:Int)≤2∧2<(↑ (4:Nat):Int))∧(2:Nat)<4)∧((0:Int)≤4∧(4:Int)≤1000)∧(((0:Int)≤0∧0<(↑ (4:Nat):Int))∧(0:Nat)<4∧((0:Int)≤1∧1<(↑ (4:Nat):Int))∧(1:Nat)<4∧((0:Int)≤2∧2<(↑
 (4:Nat):Int))∧(2:Nat)<4∧((0:Int)≤3∧3<(↑ (4:Nat):Int))∧(3:Nat)<4)∧ixor .u64 (ixor .u64 (ixor .u64 (List.getD (rndN (List.set (sipS k s x) (2:Nat) (ixor .u64 (List.getD (sipS k s x) (2:Nat) (0:Int)) (255:Int))) (4:Nat)) (0:Nat) (0:Int))
 (List.getD (rndN (List.set (sipS k s x) (2:Nat) (ixor .u64 (List.getD (sipS k s x) (2:Nat) (0:Int)) (255:Int))) (4:Nat)) (1:Nat) (0:Int))) (List.getD (rndN (List.set (sipS k s x) (2:Nat) (ixor .u64 (List.getD (sipS k s x) (2:Nat) (0:Int))
 (255:Int))) (4:Nat)) (2:Nat) (0:Int))) (List.getD (rndN (List.set (sipS k s x) (2:Nat) (ixor .u64 (List.getD (sipS k s x) (2:Nat) (0:Int)) (255:Int))) (4:Nat)) (3:Nat) (0:Int))=sipF k s
theorem vcd76 (k : List Int) (s : ByteArray) : Pd76 k s = vcFun Cd76 (annd76 k s) Go.Proofs.Tryd.f47 [⟨.arr 16 (.int .u8), k⟩, ⟨.str, s⟩] [] (outd76 k s) := by kernel_rfl

noncomputable def Cd73 : Ctx := ⟨Go.Proofs.Tryd.prog, D, Gd76, (fun _ _ => none), fun _ => []⟩
def annd73 (k : List Int) (s : ByteArray) : Nat → St → Option Ann := fun _ _ => some ⟨Nat, [8, 9], [2], fun i => [(10, .v (.int .i64) (i : Int))], fun i => [(1, some ⟨false, true, .arr 4 (.int .u64), [sipS k s i]⟩)], fun i => i ≤ ByteArray.size s / 8 + 1, fun i => ByteArray.size s / 8 + 1 - i⟩
def outd73 (k : List Int) (s : ByteArray) : COut := ⟨[ByteArray.size s ≤ 1000000000], .v (.int .u64) (sipF k s), [], []⟩
def spd73 : Spec := fun args ins => match args, ins with
  | [⟨.arr 16 (.int .u8), k⟩, ⟨.str, s⟩], [] => some (outd73 k s)
  | _, _ => none
def Gd73 := addG Gd76 94 spd73
def Pd73 (k : List Int) (s : ByteArray) : Prop :=
 ((16:Nat)≤9223372036854775807∧16≤List.length k)∧(((0:Int)≤0∧(0:Int)≤1000000000)∧(0:Int)≤8∧(8:Int)≤1000000000)∧ByteArray.size s≤1000000000∧∃ (x:Nat),((0=0∧0=0∧ByteArray.size s / 8+1=ByteArray.size s / 8+1∧0=(x:Int)∧ixor .u64 (wordS (bytesOf
 (seg k (0:Nat) (16:Nat))) (0:Nat)) (8317987319222330741:Int) :: List.set (List.set (List.set (List.replicate (nat_lit 3) (0:Int)) (nat_lit 0) (ixor .u64 (wordS (bytesOf (seg k (0:Nat) (16:Nat))) (8:Nat)) (7237128888997146477:Int)))
 (nat_lit 1) (ixor .u64 (wordS (bytesOf (seg k (0:Nat) (16:Nat))) (0:Nat)) (7816392313619706465:Int))) (nat_lit 2) (ixor .u64 (wordS (bytesOf (seg k (0:Nat) (16:Nat))) (8:Nat)) (8387220255154660723:Int))=sipS k s x∧false=false∧wordsF
 s=wordsF s∧false=false)∧x≤ByteArray.size s / 8+1)∧∀ (x:Nat),x≤ByteArray.size s / 8+1→(IntKind.min .i64≤(x:Int)∧(x:Int)≤IntKind.max .i64∧∀ (y:List Int),List.Mem y [sipS k s x]→List.length y=4∧∀ (y_1:Int),List.Mem y_1 y→IntKind.min .u64≤y_1∧y_1≤IntKind.max
 .u64)→bif decide ((x:Int)<(↑ (ByteArray.size s / 8+1):Int)) then (((0:Int)≤3∧3<(↑ (4:Nat):Int))∧(3:Nat)<4∧(0≤(x:Int)∧(x:Int)<(↑ (ByteArray.size s / 8+1):Int))∧0+(x:Int).toNat<List.length (wordsF s)∧((0:Int)≤3∧3<(↑ (4:Nat):Int))∧(3:Nat)<4)∧(((0:Int)≤0∧0<(↑
 (4:Nat):Int))∧(0:Nat)<4∧(0≤(x:Int)∧(x:Int)<(↑ (ByteArray.size s / 8+1):Int))∧0+(x:Int).toNat<List.length (wordsF s)∧((0:Int)≤0∧0<(↑ (4:Nat):Int))∧(0:Nat)<4)∧∃ (y:Nat),(0=0∧0=0∧ByteArray.size s / 8+1=ByteArray.size s / 8+1∧IntKind.wrap
 .i64 ((x:Int)+1)=(y:Int)∧List.set (rndF (rndF (List.set (sipS k s x) (3:Nat) (ixor .u64 (List.getD (sipS k s x) (3:Nat) (0:Int)) (List.getD (wordsF s) (0+(x:Int).toNat) (0:Int)))))) (0:Nat) (ixor .u64 (List.getD (rndF (rndF (List.set
 (sipS k s x) (3:Nat) (ixor .u64 (List.getD (sipS k s x) (3:Nat) (0:Int)) (List.getD (wordsF s) (0+(x:Int).toNat) (0:Int)))))) (0:Nat) (0:Int)) (List.getD (wordsF s) (0+(x:Int).toNat) (0:Int)))=sipS k s y∧false=false∧wordsF s=wordsF
 s∧false=false)∧y≤ByteArray.size s / 8+1∧ByteArray.size s / 8+1 - y<ByteArray.size s / 8+1 - x else (((0:Int)≤2∧2<(↑ (4:Nat):Int))∧(2:Nat)<4∧((0:Int)≤2∧2<(↑ (4:Nat):Int))∧(2:Nat)<4)∧(((0:Int)≤0∧0<(↑ (4:Nat):Int))∧(0:Nat)<4∧((0:Int)≤1∧1<(↑
 (4:Nat):Int))∧(1:Nat)<4∧((0:Int)≤2∧2<(↑ (4:Nat):Int))∧(2:Nat)<4∧((0:Int)≤3∧3<(↑ (4:Nat):Int))∧(3:Nat)<4)∧ixor .u64 (ixor .u64 (ixor .u64 (List.getD (rndF (rndF (rndF (rndF (List.set (sipS k s x) (2:Nat) (ixor .u64 (List.getD (sipS k
 s x) (2:Nat) (0:Int)) (255:Int))))))) (0:Nat) (0:Int)) (List.getD (rndF (rndF (rndF (rndF (List.set (sipS k s x) (2:Nat) (ixor .u64 (List.getD (sipS k s x) (2:Nat) (0:Int)) (255:Int))))))) (1:Nat) (0:Int))) (List.getD (rndF (rndF (rndF
 (rndF (List.set (sipS k s x) (2:Nat) (ixor .u64 (List.getD (sipS k s x) (2:Nat) (0:Int)) (255:Int))))))) (2:Nat) (0:Int))) (List.getD (rndF (rndF (rndF (rndF (List.set (sipS k s x) (2:Nat) (ixor .u64 (List.getD (sipS k s x) (2:Nat)
 (0:Int)) (255:Int))))))) (3:Nat) (0:Int))=sipF k s
theorem vcd73 (k : List Int) (s : ByteArray) : Pd73 k s = vcFun Cd73 (annd73 k s) Go.Proofs.Tryd.f94 [⟨.arr 16 (.int .u8), k⟩, ⟨.str, s⟩] [] (outd73 k s) := by kernel_rfl

end Go.SL.A

/- The keyed sum. -/
namespace Go.SL.A
open Go Go.SL Go.SL.S
set_option maxRecDepth 100000

theorem hwd76 {k : List Int} {s : ByteArray} (hw : Go.SL.allP (List.flatMap (fun a : AV => a.t.wf a.x) [⟨.arr 16 (.int .u8), k⟩, ⟨.str, s⟩] ++ List.flatMap Blk.wf [])) : k.length = 16 ∧ ∀ x ∈ k, 0 ≤ x ∧ x ≤ 255 := by
  simp only [List.flatMap_cons, List.flatMap_nil, Ty.wf, List.append_nil, List.cons_append, List.nil_append, Go.SL.allP] at hw
  exact ⟨hw.1, fun x hx => hw.2.1 x hx⟩
theorem seg_mem {k : List Int} {a n : Nat} {x : Int} (h : x ∈ seg k a n) : x ∈ k := by
  unfold seg at h
  exact List.mem_of_mem_drop (List.mem_of_mem_take h)
theorem key_word {k : List Int} (hb : ∀ x ∈ k, 0 ≤ x ∧ x ≤ 255) (a : Nat) : wordS (bytesOf (seg k a 8)) 0 = wordS (bytesOf k) a := by
  unfold wordS
  refine num_congr fun i hi => ?_
  rw [byte_of (fun x hx => hb x (seg_mem hx)), byte_of hb, Nat.zero_add]
  unfold seg
  rw [List.getD_eq_getElem?_getD, List.getElem?_take, if_pos hi, List.getElem?_drop, ← List.getD_eq_getElem?_getD]
theorem words_len (s : ByteArray) : (wordsF s).length = ByteArray.size s / 8 + 1 := by
  unfold wordsF; rw [List.length_append, wordsTo_len]; rfl
theorem sip_step (k : List Int) (s : ByteArray) {i : Nat} (h : i < ByteArray.size s / 8 + 1) : takeW (sipS k s i) ((wordsF s).getD i 0) = sipS k s (i + 1) := by
  unfold sipS
  rw [take_snoc' (0 : Int) (by rw [words_len]; exact h), List.foldl_append, List.foldl_cons, List.foldl_nil]
theorem sip_end (k : List Int) (s : ByteArray) : sumV (rndN (endA (sipS k s (ByteArray.size s / 8 + 1))) 4) = sipF k s := by
  unfold sipS sipF
  rw [List.take_of_length_le (by rw [words_len]; exact Nat.le_refl _)]
theorem init_sip (k : List Int) (s : ByteArray) : initS k = sipS k s 0 := by
  unfold sipS
  rw [List.take_zero, List.foldl_nil]
theorem set3 (a b c d : Int) : a :: List.set (List.set (List.set (List.replicate 3 0) 0 b) 1 c) 2 d = [a, b, c, d] := rfl
theorem sg_0 : List.getD sgL 0 0 = 8317987319222330741 := rfl
theorem sg_1 : List.getD sgL 1 0 = 7237128888997146477 := rfl
theorem sg_2 : List.getD sgL 2 0 = 7816392313619706465 := rfl
theorem sg_3 : List.getD sgL 3 0 = 8387220255154660723 := rfl
theorem take_eqN (v : List Int) (w : Int) : List.set (rndN (List.set v 3 (ixor .u64 (List.getD v 3 0) w)) 2) 0 (ixor .u64 (List.getD (rndN (List.set v 3 (ixor .u64 (List.getD v 3 0) w)) 2) 0 0) w) = takeW v w := by
  unfold takeW takeB takeA
  exact rfl
theorem rnd2 (v : List Int) : rndF (rndF v) = rndN v 2 := by rw [rndN, rndN, rndN]
theorem rnd4 (v : List Int) : rndF (rndF (rndF (rndF v))) = rndN v 4 := by rw [rndN, rndN, rndN, rndN, rndN]
theorem sum_eqN (v : List Int) : ixor .u64 (ixor .u64 (ixor .u64 (List.getD (rndN (List.set v 2 (ixor .u64 (List.getD v 2 0) 255)) 4) 0 0) (List.getD (rndN (List.set v 2 (ixor .u64 (List.getD v 2 0) 255)) 4) 1 0)) (List.getD (rndN (List.set v 2 (ixor .u64 (List.getD v 2 0) 255)) 4) 2 0)) (List.getD (rndN (List.set v 2 (ixor .u64 (List.getD v 2 0) 255)) 4) 3 0) = sumV (rndN (endA v) 4) := by
  unfold endA sumV
  exact rfl

theorem pured76 (k : List Int) (s : ByteArray) (hp : ByteArray.size s ≤ 1000000000) (hk : k.length = 16 ∧ ∀ x ∈ k, 0 ≤ x ∧ x ≤ 255) : Pd76 k s := by
  obtain ⟨hl, hb⟩ := hk
  unfold Pd76
  have s1 : ByteArray.size (bytesOf (seg k 0 8)) ≤ 8 := by rw [size_of]; unfold seg; rw [List.length_take]; omega
  have s2 : ByteArray.size (bytesOf (seg k 8 8)) ≤ 8 := by rw [size_of]; unfold seg; rw [List.length_take]; omega
  simp only [eq_self, true_and, and_true, Int.toNat_natCast, Nat.zero_add, words_len]
  refine ⟨by and_intros <;> omega, by and_intros <;> omega, hp, 0, ⟨⟨rfl, ?_⟩, by omega⟩, fun i hi hw => ?_⟩
  · rw [key_word hb, key_word hb, sg_0, sg_1, sg_2, sg_3, ← init_sip]
    unfold initS
    exact set3 _ _ _ _
  clear hw
  by_cases h : (i : Int) < ((ByteArray.size s / 8 + 1 : Nat) : Int)
  · rw [decide_eq_true h, cond_true]
    exact ⟨by and_intros <;> omega, by and_intros <;> omega, by and_intros <;> omega, by and_intros <;> omega, i + 1, ⟨by rw [w64 (by omega) (by omega)]; omega, (take_eqN _ _).trans (sip_step k s (by omega))⟩, by omega, by omega⟩
  · have : i = ByteArray.size s / 8 + 1 := by omega
    subst this
    rw [decide_eq_false h, cond_false]
    exact ⟨by and_intros <;> omega, by and_intros <;> omega, by and_intros <;> omega, (sum_eqN _).trans (sip_end k s)⟩

theorem pured73 (k : List Int) (s : ByteArray) (hp : ByteArray.size s ≤ 1000000000) (hk : k.length = 16 ∧ ∀ x ∈ k, 0 ≤ x ∧ x ≤ 255) : Pd73 k s := by
  obtain ⟨hl, hb⟩ := hk
  unfold Pd73
  have e1 : seg k 0 16 = k := by unfold seg; rw [List.drop_zero, List.take_of_length_le (by omega)]
  simp only [eq_self, true_and, and_true, Int.toNat_natCast, Nat.zero_add, words_len, e1]
  refine ⟨by and_intros <;> omega, by and_intros <;> omega, hp, 0, ⟨⟨rfl, ?_⟩, by omega⟩, fun i hi hw => ?_⟩
  · rw [← init_sip]
    unfold initS
    exact set3 _ _ _ _
  clear hw
  by_cases h : (i : Int) < ((ByteArray.size s / 8 + 1 : Nat) : Int)
  · rw [decide_eq_true h, cond_true]
    rw [rnd2]
    exact ⟨by and_intros <;> omega, by and_intros <;> omega, i + 1, ⟨by rw [w64 (by omega) (by omega)]; omega, (take_eqN _ _).trans (sip_step k s (by omega))⟩, by omega, by omega⟩
  · have : i = ByteArray.size s / 8 + 1 := by omega
    subst this
    rw [decide_eq_false h, cond_false]
    rw [rnd4]
    exact ⟨by and_intros <;> omega, by and_intros <;> omega, (sum_eqN _).trans (sip_end k s)⟩
end Go.SL.A

/- Functions do what they are held to do. -/
namespace Go.SL.A
open Go Go.SL Go.SL.S
theorem sndd76 : Sound Go.Proofs.Tryd.prog Gd76 := sndd93.add ⟨_, Go.Proofs.Tryd.func47, by kernel_rfl, by kernel_rfl⟩ (by
  intro args ins out h hp
  unfold spd76 at h
  split at h
  · rename_i k s
    cases h
    exact vcFun_ok (C := Cd76) good sndd93 Meth.none mix Go.Proofs.Tryd.func47 (annd76 k s) (fun hw => by rw [← vcd76 k s]; exact pured76 k s hp (hwd76 hw))
  · cases h)

theorem sndd73 : Sound Go.Proofs.Tryd.prog Gd73 := sndd76.add ⟨_, Go.Proofs.Tryd.func94, by kernel_rfl, by kernel_rfl⟩ (by
  intro args ins out h hp
  unfold spd73 at h
  split at h
  · rename_i k s
    cases h
    exact vcFun_ok (C := Cd73) good sndd76 Meth.none mix Go.Proofs.Tryd.func94 (annd73 k s) (fun hw => by rw [← vcd73 k s]; exact pured73 k s hp (hwd76 hw))
  · cases h)

end Go.SL.A

/- A bit of a number. -/
namespace Go.SL.S
open Go Go.SL
def bitX (x : Int) (j : Nat) : Bool := decide (x / 2 ^ j % 2 = 1)
end Go.SL.S
namespace Go.SL.A
open Go Go.SL Go.SL.S
theorem bit_shr {x : Int} (hx : 0 ≤ x ∧ x ≤ 18446744073709551615) {i : Nat} (hi : i < 64) : decide (iand .u64 (ishr .u64 x (i : Int)) 1 = 1) = bitX x i := by
  obtain ⟨n, rfl⟩ : ∃ n : Nat, x = n := ⟨x.toNat, by omega⟩
  have e1 : ishr .u64 (n : Int) (i : Int) = ((n / 2 ^ i : Nat) : Int) := by
    unfold ishr
    have : min ((i : Int).toNat) IntKind.u64.bits = i := by
      have : IntKind.u64.bits = 64 := rfl
      omega
    rw [this, Int.fdiv_eq_ediv_of_nonneg _ (by exact Int.pow_nonneg (by decide))]
    simp
  have hq : n / 2 ^ i ≤ n := Nat.div_le_self _ _
  have e2 : ∀ m : Nat, m < 18446744073709551616 → iand .u64 (m : Int) 1 = ((m % 2 : Nat) : Int) := fun m hm => by
    unfold iand
    have h1 : (BitVec.ofInt IntKind.u64.bits (m : Int) &&& BitVec.ofInt IntKind.u64.bits 1).toNat = m % 2 := by
      rw [BitVec.toNat_and, BitVec.ofInt_natCast, BitVec.toNat_ofNat]
      have e : (2 : Nat) ^ IntKind.u64.bits = 18446744073709551616 := by decide
      have e1 : (BitVec.ofInt IntKind.u64.bits 1).toNat = 1 := by decide
      rw [e, e1, Nat.mod_eq_of_lt hm, Nat.and_one_is_mod]
    rw [h1]
    have : IntKind.u64.wrap ((m % 2 : Nat) : Int) = ((m % 2 : Nat) : Int) % 18446744073709551616 := by simp [IntKind.wrap, IntKind.bits, IntKind.signed]
    rw [this]; omega
  rw [e1, e2 _ (by omega)]
  unfold bitX
  have hp : (n : Int) / 2 ^ i = ((n / 2 ^ i : Nat) : Int) := by simp
  rw [hp]
  congr 1

end Go.SL.A

/- What a key makes of a number: plain functions. -/
namespace Go.SL.S
open Go Go.SL
def nbytes (n : Int) : List Int := (List.range 8).map fun i => n % 18446744073709551616 / 256 ^ i % 256
def numK (k : List Int) (sign n : Int) : Int := sipF k (bytesOf (sign :: nbytes n))
def iotaI (n : Nat) : List Int := (List.range n).map fun i : Nat => (i : Int)
def swpI (l : List Int) (i j : Nat) : List Int := List.set (List.set l i (List.getD l j 0)) j (List.getD l i 0)
def ordTo (k : List Int) (sign : Int) (n : Nat) : Nat → List Int
  | 0 => iotaI n
  | m + 1 => swpI (ordTo k sign n m) (n - 1 - m) (numK k sign ((n - 1 - m : Nat) : Int) % ((n - m : Nat) : Int)).toNat
def ordK (k : List Int) (sign : Int) (n : Nat) : List Int := ordTo k sign n (n - 1)
def bandK (k : List Int) (f : Int) : Int := (ordK k (128 + f % 1016 / 8) 8).getD (f % 1016 % 8).toNat 0
def chipK (x : Int) : List Int := (List.range 4).map fun i => if bitX x i then -1 else 1
def chipsK (k : List Int) (f : Int) : List Int := chipK (numK k 99 (f % 1016))
end Go.SL.S

/- Functions and what they are held to do: bound to their code. -/
namespace Go.SL.A
open Go Go.SL Go.SL.S
set_option maxRecDepth 100000
noncomputable def Cd109 : Ctx := ⟨Go.Proofs.Tryd.prog, D, Gd73, (fun _ _ => none), fun _ => []⟩
def annd109 (_i _x : Int) : Nat → St → Option Ann := fun _ _ => none
def outd109 (i x : Int) : COut := ⟨[0 ≤ i ∧ i < 64], .v .bool (bitX x i.toNat), [], []⟩
def spd109 : Spec := fun args ins => match args, ins with
  | [⟨.int .i64, i⟩, ⟨.ref .ptr, .ptr 0 (.int .u64) [0]⟩], [⟨false, true, .int .u64, [x]⟩] => some (outd109 i x)
  | _, _ => none
def Gd109 := addG Gd73 135 spd109
def Pd109 (i x : Int) : Prop :=
 0≤i∧decide (iand .u64 (ishr .u64 x i) (1:Int)=1)=bitX x i.toNat∧x=x∧false=false
theorem vcd109 (i x : Int) : Pd109 i x = vcFun Cd109 (annd109 i x) Go.Proofs.Tryd.f135 [⟨.int .i64, i⟩, ⟨.ref .ptr, .ptr 0 (.int .u64) [0]⟩] [⟨false, true, .int .u64, [x]⟩] (outd109 i x) := by kernel_rfl

noncomputable def Cd81 : Ctx := ⟨Go.Proofs.Tryd.prog, D, Gd109, (fun _ _ => none), fun _ => []⟩
def annd81 (_x : Int) : Nat → St → Option Ann := fun _ _ => none
def outd81 (x : Int) : COut := ⟨[], .v (.ref .func) (.func (.func 135) [] [.ptr 0 (.int .u64) [0]]), [], [⟨false, true, .int .u64, [x]⟩]⟩
def spd81 : Spec := fun args ins => match args, ins with
  | [⟨.int .u64, x⟩], [] => some (outd81 x)
  | _, _ => none
def Gd81 := addG Gd109 99 spd81
def Pd81 (x : Int) : Prop :=
 0=0∧x=x∧false=false
theorem vcd81 (x : Int) : Pd81 x = vcFun Cd81 (annd81 x) Go.Proofs.Tryd.f99 [⟨.int .u64, x⟩] [] (outd81 x) := by kernel_rfl

noncomputable def Cd82 : Ctx := ⟨Go.Proofs.Tryd.prog, D, Gd81, (fun _ _ => none), fun _ => []⟩
def annd82 (_k : List Int) (s n : Int) : Nat → St → Option Ann := fun _ _ => some ⟨Nat, [2, 3], [0], fun i => [(11, .v (.int .i64) (i : Int)), (7, .v (.ref .slice) (.slice 2 (.int .u8) [] 0 (i + 1)))], fun i => [(2, some ⟨false, false, .int .u8, s :: (nbytes n).take i⟩)], fun i => i ≤ 8, fun i => 8 - i⟩
def outd82 (k : List Int) (s n : Int) : COut := ⟨[], .v (.int .u64) (numK k s n), [], []⟩
def spd82 : Spec := fun args ins => match args, ins with
  | [⟨.arr 16 (.int .u8), k⟩, ⟨.int .u8, s⟩, ⟨.int .i64, n⟩], [] => some (outd82 k s n)
  | _, _ => none
def Gd82 := addG Gd81 92 spd82
def Pd82 (k : List Int) (s n : Int) : Prop :=
 ∃ (x:Nat),((n=n∧0=0∧0=0∧1=x+1∧0=(x:Int)∧k=k∧false=false∧s :: List.replicate (nat_lit 0) (0:Int)=s :: List.take x (nbytes n)∧false=false)∧x≤8)∧∀ (x:Nat),x≤8→(IntKind.min .i64≤(x:Int)∧(x:Int)≤IntKind.max .i64∧∀ (y:Int),List.Mem y (s ::
 List.take x (nbytes n))→IntKind.min .u8≤y∧y≤IntKind.max .u8)→bif decide ((x:Int)<8) then (0≤IntKind.wrap .i64 ((8:Int) * (x:Int))∧(1:Nat)≤1∧0+(x+1)=List.length (s :: List.take x (nbytes n))∧(x+1+List.length (seg (IntKind.wrap .u8 (ishr
 .u64 (IntKind.wrap .u64 n) (IntKind.wrap .i64 ((8:Int) * (x:Int)))) :: List.replicate (nat_lit 0) (0:Int)) (0:Nat) (1:Nat))) * 1≤70368744177664)∧∃ (y:Nat),(n=n∧0=0∧0=0∧x+1+List.length (seg (IntKind.wrap .u8 (ishr .u64 (IntKind.wrap
 .u64 n) (IntKind.wrap .i64 ((8:Int) * (x:Int)))) :: List.replicate (nat_lit 0) (0:Int)) (0:Nat) (1:Nat))=y+1∧IntKind.wrap .i64 ((x:Int)+1)=(y:Int)∧k=k∧false=false∧s :: List.append (List.take x (nbytes n)) (seg (IntKind.wrap .u8 (ishr
 .u64 (IntKind.wrap .u64 n) (IntKind.wrap .i64 ((8:Int) * (x:Int)))) :: List.replicate (nat_lit 0) (0:Int)) (0:Nat) (1:Nat))=s :: List.take y (nbytes n)∧false=false)∧y≤8∧8 - y<8 - x else (0+(x+1)≤List.length (s :: List.take x (nbytes
 n))∧ByteArray.size (bytesOf (seg (s :: List.take x (nbytes n)) (0:Nat) (x+1)))≤1000000000)∧sipF k (bytesOf (seg (s :: List.take x (nbytes n)) (0:Nat) (x+1)))=numK k s n
theorem vcd82 (k : List Int) (s n : Int) : Pd82 k s n = vcFun Cd82 (annd82 k s n) Go.Proofs.Tryd.f92 [⟨.arr 16 (.int .u8), k⟩, ⟨.int .u8, s⟩, ⟨.int .i64, n⟩] [] (outd82 k s n) := by kernel_rfl

noncomputable def Cd54 : Ctx := ⟨Go.Proofs.Tryd.prog, D, Gd82, (fun _ _ => none), fun _ => []⟩
def annd54 (_k : List Int) (s n : Int) : Nat → St → Option Ann := fun _ _ => some ⟨Nat, [3], [0], fun i => [(9, .v (.int .i64) (i : Int)), (8, .v (.int .u64) (n % 18446744073709551616 / 256 ^ i)), (7, .v .str (bytesOf (s :: (nbytes n).take i)))], fun _ => [], fun i => i ≤ 8, fun i => 8 - i⟩
def outd54 (k : List Int) (s n : Int) : COut := ⟨[], .v (.int .u64) (numK k s n), [], []⟩
def spd54 : Spec := fun args ins => match args, ins with
  | [⟨.arr 16 (.int .u8), k⟩, ⟨.int .u8, s⟩, ⟨.int .i64, n⟩], [] => some (outd54 k s n)
  | _, _ => none
def Gd54 := addG Gd82 95 spd54
def Pd54 (k : List Int) (s n : Int) : Prop :=
 (1:Nat)≤1∧∃ (x:Nat),((0=0∧bytesOf (seg (s :: List.replicate (nat_lit 0) (0:Int)) (0:Nat) (1:Nat))=bytesOf (s :: List.take x (nbytes n))∧IntKind.wrap .u64 n=n % 18446744073709551616 / 256 ^ x∧0=(x:Int)∧k=k∧false=false)∧x≤8)∧∀ (x:Nat),x≤8→IntKind.min
 .i64≤(x:Int)∧(x:Int)≤IntKind.max .i64∧IntKind.min .u64≤n % 18446744073709551616 / 256 ^ x∧n % 18446744073709551616 / 256 ^ x≤IntKind.max .u64∧ByteArray.size (bytesOf (s :: List.take x (nbytes n)))≤9223372036854775807→bif decide ((x:Int)<8)
 then ((256:Int)≠0∧(1:Nat)≤1∧ByteArray.size (bytesOf (s :: List.take x (nbytes n)))+ByteArray.size (bytesOf (seg (IntKind.wrap .u8 (Int.tmod (n % 18446744073709551616 / 256 ^ x) (256:Int)) :: List.replicate (nat_lit 0) (0:Int)) (0:Nat)
 (1:Nat)))≤9223372036854775807)∧(256:Int)≠0∧∃ (y:Nat),(0=0∧ByteArray.append (bytesOf (s :: List.take x (nbytes n))) (bytesOf (seg (IntKind.wrap .u8 (Int.tmod (n % 18446744073709551616 / 256 ^ x) (256:Int)) :: List.replicate (nat_lit
 0) (0:Int)) (0:Nat) (1:Nat)))=bytesOf (s :: List.take y (nbytes n))∧IntKind.wrap .u64 (Int.tdiv (n % 18446744073709551616 / 256 ^ x) (256:Int))=n % 18446744073709551616 / 256 ^ y∧IntKind.wrap .i64 ((x:Int)+1)=(y:Int)∧k=k∧false=false)∧y≤8∧8
 - y<8 - x else ByteArray.size (bytesOf (s :: List.take x (nbytes n)))≤1000000000∧sipF k (bytesOf (s :: List.take x (nbytes n)))=numK k s n
theorem vcd54 (k : List Int) (s n : Int) : Pd54 k s n = vcFun Cd54 (annd54 k s n) Go.Proofs.Tryd.f95 [⟨.arr 16 (.int .u8), k⟩, ⟨.int .u8, s⟩, ⟨.int .i64, n⟩] [] (outd54 k s n) := by kernel_rfl

noncomputable def Cd62 : Ctx := ⟨Go.Proofs.Tryd.prog, D, Gd54, (fun _ _ => none), fun _ => []⟩
def annd62 (k : List Int) (s n : Int) : Nat → St → Option Ann := fun id _ => match id with | 0 => some ⟨Nat, [1, 2, 3, 7, 20], [0], fun i => [(21, .v (.int .i64) (i : Int))], fun i => [(1, some ⟨false, false, .int .i64, (iotaI n.toNat).take i ++ (List.replicate n.toNat 0).drop i⟩)], fun i => i ≤ n.toNat, fun i => n.toNat - i⟩ | _ => some ⟨Nat, [1, 3, 7], [0], fun m => [(9, .v (.int .i64) (n - 1 - (m : Int)))], fun m => [(1, some ⟨false, false, .int .i64, ordTo k s n.toNat m⟩)], fun m => m ≤ n.toNat - 1, fun m => n.toNat - 1 - m⟩
def outd62 (k : List Int) (s n : Int) : COut := ⟨[1 ≤ n ∧ n ≤ 256], .v (.ref .slice) (.slice 0 (.int .i64) [] 0 n.toNat), [], [⟨false, false, .int .i64, ordK k s n.toNat⟩]⟩
def spd62 : Spec := fun args ins => match args, ins with
  | [⟨.arr 16 (.int .u8), k⟩, ⟨.int .u8, s⟩, ⟨.int .i64, n⟩], [] => some (outd62 k s n)
  | _, _ => none
def Gd62 := addG Gd54 49 spd62
def Pd62 (k : List Int) (s n : Int) : Prop :=
 ∀ (b:Bool),decide (n<1)=b→(((!b)=true→(!b)=true)∧(b=false→(!b)=true))∧bif bif b then true else decide (256<n) then n.toNat=0∧ordK k s n.toNat=[] else (0≤n∧n=n∧n * (↑ (8:Nat):Int)≤(↑ (70368744177664:Nat):Int)∧n≤(↑ (70368744177664:Nat):Int))∧∃
 (x:Nat),((s=s∧n=n∧0=0∧0=0∧n.toNat=n.toNat∧(↑ n.toNat:Int)=(↑ n.toNat:Int)∧0=(x:Int)∧k=k∧false=false∧List.replicate n.toNat (0:Int)=List.take x (iotaI n.toNat) ++ List.drop x (List.replicate n.toNat (0:Int))∧false=false)∧x≤n.toNat)∧∀
 (x:Nat),x≤n.toNat→(IntKind.min .i64≤(x:Int)∧(x:Int)≤IntKind.max .i64∧∀ (y:Int),List.Mem y (List.take x (iotaI n.toNat) ++ List.drop x (List.replicate n.toNat (0:Int)))→IntKind.min .i64≤y∧y≤IntKind.max .i64)→bif decide ((x:Int)<(↑ n.toNat:Int))
 then ((0≤(x:Int)∧(x:Int)<(↑ n.toNat:Int))∧0+(x:Int).toNat<List.length (List.take x (iotaI n.toNat) ++ List.drop x (List.replicate n.toNat (0:Int))))∧∃ (y:Nat),(s=s∧n=n∧0=0∧0=0∧n.toNat=n.toNat∧(↑ n.toNat:Int)=(↑ n.toNat:Int)∧IntKind.wrap
 .i64 ((x:Int)+1)=(y:Int)∧k=k∧false=false∧List.set (List.take x (iotaI n.toNat) ++ List.drop x (List.replicate n.toNat (0:Int))) (0+(x:Int).toNat) (x:Int)=List.take y (iotaI n.toNat) ++ List.drop y (List.replicate n.toNat (0:Int))∧false=false)∧y≤n.toNat∧n.toNat
 - y<n.toNat - x else ∃ (x_1:Nat),((s=s∧0=0∧0=0∧n.toNat=n.toNat∧IntKind.wrap .i64 (n - 1)=n - 1 - (x_1:Int)∧k=k∧false=false∧List.append (List.take x (iotaI n.toNat)) (List.drop x (List.replicate n.toNat (0:Int)))=ordTo k s n.toNat x_1∧false=false)∧x_1≤n.toNat
 - 1)∧∀ (x:Nat),x≤n.toNat - 1→(IntKind.min .i64≤n - 1 - (x:Int)∧n - 1 - (x:Int)≤IntKind.max .i64∧∀ (y:Int),List.Mem y (ordTo k s n.toNat x)→IntKind.min .i64≤y∧y≤IntKind.max .i64)→bif decide (0<n - 1 - (x:Int)) then IntKind.wrap .u64
 (IntKind.wrap .i64 (n - 1 - (x:Int)+1))≠0∧((0≤IntKind.wrap .i64 (Int.tmod (numK k s (n - 1 - (x:Int))) (IntKind.wrap .u64 (IntKind.wrap .i64 (n - 1 - (x:Int)+1))))∧IntKind.wrap .i64 (Int.tmod (numK k s (n - 1 - (x:Int))) (IntKind.wrap
 .u64 (IntKind.wrap .i64 (n - 1 - (x:Int)+1))))<(↑ n.toNat:Int))∧0+(IntKind.wrap .i64 (Int.tmod (numK k s (n - 1 - (x:Int))) (IntKind.wrap .u64 (IntKind.wrap .i64 (n - 1 - (x:Int)+1))))).toNat<List.length (ordTo k s n.toNat x)∧(0≤n -
 1 - (x:Int)∧n - 1 - (x:Int)<(↑ n.toNat:Int))∧0+(n - 1 - (x:Int)).toNat<List.length (ordTo k s n.toNat x)∧(0≤n - 1 - (x:Int)∧n - 1 - (x:Int)<(↑ n.toNat:Int))∧0+(n - 1 - (x:Int)).toNat<List.length (ordTo k s n.toNat x)∧(0≤IntKind.wrap
 .i64 (Int.tmod (numK k s (n - 1 - (x:Int))) (IntKind.wrap .u64 (IntKind.wrap .i64 (n - 1 - (x:Int)+1))))∧IntKind.wrap .i64 (Int.tmod (numK k s (n - 1 - (x:Int))) (IntKind.wrap .u64 (IntKind.wrap .i64 (n - 1 - (x:Int)+1))))<(↑ n.toNat:Int))∧0+(IntKind.wrap
 .i64 (Int.tmod (numK k s (n - 1 - (x:Int))) (IntKind.wrap .u64 (IntKind.wrap .i64 (n - 1 - (x:Int)+1))))).toNat<List.length (List.set (ordTo k s n.toNat x) (0+(n - 1 - (x:Int)).toNat) (List.getD (ordTo k s n.toNat x) (0+(IntKind.wrap
 .i64 (Int.tmod (numK k s (n - 1 - (x:Int))) (IntKind.wrap .u64 (IntKind.wrap .i64 (n - 1 - (x:Int)+1))))).toNat) (0:Int))))∧∃ (y:Nat),(s=s∧0=0∧0=0∧n.toNat=n.toNat∧IntKind.wrap .i64 (n - 1 - (x:Int) - 1)=n - 1 - (y:Int)∧k=k∧false=false∧List.set
 (List.set (ordTo k s n.toNat x) (0+(n - 1 - (x:Int)).toNat) (List.getD (ordTo k s n.toNat x) (0+(IntKind.wrap .i64 (Int.tmod (numK k s (n - 1 - (x:Int))) (IntKind.wrap .u64 (IntKind.wrap .i64 (n - 1 - (x:Int)+1))))).toNat) (0:Int)))
 (0+(IntKind.wrap .i64 (Int.tmod (numK k s (n - 1 - (x:Int))) (IntKind.wrap .u64 (IntKind.wrap .i64 (n - 1 - (x:Int)+1))))).toNat) (List.getD (ordTo k s n.toNat x) (0+(n - 1 - (x:Int)).toNat) (0:Int))=ordTo k s n.toNat y∧false=false)∧y≤n.toNat
 - 1∧n.toNat - 1 - y<n.toNat - 1 - x else 0=0∧n.toNat=n.toNat∧ordTo k s n.toNat x=ordK k s n.toNat∧false=false
theorem vcd62 (k : List Int) (s n : Int) : Pd62 k s n = vcFun Cd62 (annd62 k s n) Go.Proofs.Tryd.f49 [⟨.arr 16 (.int .u8), k⟩, ⟨.int .u8, s⟩, ⟨.int .i64, n⟩] [] (outd62 k s n) := by kernel_rfl

noncomputable def Cd53 : Ctx := ⟨Go.Proofs.Tryd.prog, D, Gd62, (fun _ _ => none), fun _ => []⟩
def annd53 (k : List Int) (s n : Int) : Nat → St → Option Ann := fun id _ => match id with | 0 => some ⟨Nat, [1, 2, 3], [0], fun i => [(8, .v (.int .i64) (i : Int)), (7, .v (.ref .slice) (.slice 1 (.int .i64) [] 0 i))], fun i => [(1, some ⟨false, false, .int .i64, iotaI i⟩)], fun i => i ≤ n.toNat, fun i => n.toNat - i⟩ | _ => some ⟨Nat, [1, 3, 7], [0], fun m => [(9, .v (.int .i64) (n - 1 - (m : Int)))], fun m => [(1, some ⟨false, false, .int .i64, ordTo k s n.toNat m⟩)], fun m => m ≤ n.toNat - 1, fun m => n.toNat - 1 - m⟩
def outd53 (k : List Int) (s n : Int) : COut := ⟨[1 ≤ n ∧ n ≤ 256], .v (.ref .slice) (.slice 0 (.int .i64) [] 0 n.toNat), [], [⟨false, false, .int .i64, ordK k s n.toNat⟩]⟩
def spd53 : Spec := fun args ins => match args, ins with
  | [⟨.arr 16 (.int .u8), k⟩, ⟨.int .u8, s⟩, ⟨.int .i64, n⟩], [] => some (outd53 k s n)
  | _, _ => none
def Gd53 := addG Gd62 52 spd53
def Pd53 (k : List Int) (s n : Int) : Prop :=
 ∃ (x:Nat),((s=s∧n=n∧0=0∧x=0∧0=(x:Int)∧k=k∧false=false∧iotaI x=[])∧x≤n.toNat)∧∀ (x:Nat),x≤n.toNat→(IntKind.min .i64≤(x:Int)∧(x:Int)≤IntKind.max .i64∧∀ (y:Int),List.Mem y (iotaI x)→IntKind.min .i64≤y∧y≤IntKind.max .i64)→bif decide ((x:Int)<n)
 then ((1:Nat)≤1∧0+x=List.length (iotaI x)∧(x+List.length (seg ((x:Int) :: List.replicate (nat_lit 0) (0:Int)) (0:Nat) (1:Nat))) * 8≤70368744177664)∧∃ (y:Nat),(s=s∧n=n∧0=0∧0=0∧x+List.length (seg ((x:Int) :: List.replicate (nat_lit 0)
 (0:Int)) (0:Nat) (1:Nat))=y∧IntKind.wrap .i64 ((x:Int)+1)=(y:Int)∧k=k∧false=false∧List.append (List.drop (0:Nat) (iotaI x)) (seg ((x:Int) :: List.replicate (nat_lit 0) (0:Int)) (0:Nat) (1:Nat))=iotaI y∧false=false)∧y≤n.toNat∧n.toNat
 - y<n.toNat - x else ∃ (x_1:Nat),((s=s∧0=0∧0=0∧x=x∧IntKind.wrap .i64 (n - 1)=n - 1 - (x_1:Int)∧k=k∧false=false∧iotaI x=ordTo k s n.toNat x_1∧false=false)∧x_1≤n.toNat - 1)∧∀ (x_2:Nat),x_2≤n.toNat - 1→(IntKind.min .i64≤n - 1 - (x_2:Int)∧n
 - 1 - (x_2:Int)≤IntKind.max .i64∧∀ (y:Int),List.Mem y (ordTo k s n.toNat x_2)→IntKind.min .i64≤y∧y≤IntKind.max .i64)→bif decide (1≤n - 1 - (x_2:Int)) then IntKind.wrap .u64 (IntKind.wrap .i64 (n - 1 - (x_2:Int)+1))≠0∧((0≤n - 1 - (x_2:Int)∧n
 - 1 - (x_2:Int)<(x:Int))∧0+(n - 1 - (x_2:Int)).toNat<List.length (ordTo k s n.toNat x_2))∧((0≤IntKind.wrap .i64 (Int.tmod (numK k s (n - 1 - (x_2:Int))) (IntKind.wrap .u64 (IntKind.wrap .i64 (n - 1 - (x_2:Int)+1))))∧IntKind.wrap .i64
 (Int.tmod (numK k s (n - 1 - (x_2:Int))) (IntKind.wrap .u64 (IntKind.wrap .i64 (n - 1 - (x_2:Int)+1))))<(x:Int))∧0+(IntKind.wrap .i64 (Int.tmod (numK k s (n - 1 - (x_2:Int))) (IntKind.wrap .u64 (IntKind.wrap .i64 (n - 1 - (x_2:Int)+1))))).toNat<List.length
 (ordTo k s n.toNat x_2)∧(0≤n - 1 - (x_2:Int)∧n - 1 - (x_2:Int)<(x:Int))∧0+(n - 1 - (x_2:Int)).toNat<List.length (ordTo k s n.toNat x_2))∧((0≤IntKind.wrap .i64 (Int.tmod (numK k s (n - 1 - (x_2:Int))) (IntKind.wrap .u64 (IntKind.wrap
 .i64 (n - 1 - (x_2:Int)+1))))∧IntKind.wrap .i64 (Int.tmod (numK k s (n - 1 - (x_2:Int))) (IntKind.wrap .u64 (IntKind.wrap .i64 (n - 1 - (x_2:Int)+1))))<(x:Int))∧0+(IntKind.wrap .i64 (Int.tmod (numK k s (n - 1 - (x_2:Int))) (IntKind.wrap
 .u64 (IntKind.wrap .i64 (n - 1 - (x_2:Int)+1))))).toNat<List.length (List.set (ordTo k s n.toNat x_2) (0+(n - 1 - (x_2:Int)).toNat) (List.getD (ordTo k s n.toNat x_2) (0+(IntKind.wrap .i64 (Int.tmod (numK k s (n - 1 - (x_2:Int))) (IntKind.wrap
 .u64 (IntKind.wrap .i64 (n - 1 - (x_2:Int)+1))))).toNat) (0:Int))))∧∃ (y:Nat),(s=s∧0=0∧0=0∧x=x∧IntKind.wrap .i64 (n - 1 - (x_2:Int) - 1)=n - 1 - (y:Int)∧k=k∧false=false∧List.set (List.set (ordTo k s n.toNat x_2) (0+(n - 1 - (x_2:Int)).toNat)
 (List.getD (ordTo k s n.toNat x_2) (0+(IntKind.wrap .i64 (Int.tmod (numK k s (n - 1 - (x_2:Int))) (IntKind.wrap .u64 (IntKind.wrap .i64 (n - 1 - (x_2:Int)+1))))).toNat) (0:Int))) (0+(IntKind.wrap .i64 (Int.tmod (numK k s (n - 1 - (x_2:Int)))
 (IntKind.wrap .u64 (IntKind.wrap .i64 (n - 1 - (x_2:Int)+1))))).toNat) (List.getD (ordTo k s n.toNat x_2) (0+(n - 1 - (x_2:Int)).toNat) (0:Int))=ordTo k s n.toNat y∧false=false)∧y≤n.toNat - 1∧n.toNat - 1 - y<n.toNat - 1 - x_2 else 0=0∧x=n.toNat∧ordTo
 k s n.toNat x_2=ordK k s n.toNat∧false=false
theorem vcd53 (k : List Int) (s n : Int) : Pd53 k s n = vcFun Cd53 (annd53 k s n) Go.Proofs.Tryd.f52 [⟨.arr 16 (.int .u8), k⟩, ⟨.int .u8, s⟩, ⟨.int .i64, n⟩] [] (outd53 k s n) := by kernel_rfl

noncomputable def Cd61 : Ctx := ⟨Go.Proofs.Tryd.prog, D, Gd53, (fun _ _ => none), fun _ => []⟩
def annd61 (_n : Int) : Nat → St → Option Ann := fun _ _ => none
def outd61 (n : Int) : COut := ⟨[], .v (.int .i64) (n % 1016), [], []⟩
def spd61 : Spec := fun args ins => match args, ins with
  | [⟨.int .i64, n⟩], [] => some (outd61 n)
  | _, _ => none
def Gd61 := addG Gd53 48 spd61
def Pd61 (n : Int) : Prop :=
 ((1016:Int)≠0∧(1016:Int)≠0)∧Int.tmod (IntKind.wrap .i64 (Int.tmod n (1016:Int)+1016)) (1016:Int)=n % 1016
theorem vcd61 (n : Int) : Pd61 n = vcFun Cd61 (annd61 n) Go.Proofs.Tryd.f48 [⟨.int .i64, n⟩] [] (outd61 n) := by kernel_rfl

noncomputable def Cd52 : Ctx := ⟨Go.Proofs.Tryd.prog, D, Gd61, (fun _ _ => none), fun _ => []⟩
def annd52 (_n : Int) : Nat → St → Option Ann := fun _ _ => none
def outd52 (n : Int) : COut := ⟨[], .v (.int .i64) (n % 1016), [], []⟩
def spd52 : Spec := fun args ins => match args, ins with
  | [⟨.int .i64, n⟩], [] => some (outd52 n)
  | _, _ => none
def Gd52 := addG Gd61 29 spd52
def Pd52 (n : Int) : Prop :=
 (1016:Int)≠0∧bif decide (Int.tmod n (1016:Int)<0) then IntKind.wrap .i64 (Int.tmod n (1016:Int)+1016)=n % 1016 else Int.tmod n (1016:Int)=n % 1016
theorem vcd52 (n : Int) : Pd52 n = vcFun Cd52 (annd52 n) Go.Proofs.Tryd.f29 [⟨.int .i64, n⟩] [] (outd52 n) := by kernel_rfl

noncomputable def Cd24 : Ctx := ⟨Go.Proofs.Tryd.prog, D, Gd52, (fun _ _ => none), fun _ => []⟩
def annd24 (_k : List Int) (_n : Int) : Nat → St → Option Ann := fun _ _ => none
def outd24 (k : List Int) (n : Int) : COut := ⟨[], .v (.int .i64) (bandK k n), [], []⟩
def spd24 : Spec := fun args ins => match args, ins with
  | [⟨.arr 16 (.int .u8), k⟩, ⟨.int .i64, n⟩], [] => some (outd24 k n)
  | _, _ => none
def Gd24 := addG Gd52 18 spd24
def Pd24 (k : List Int) (n : Int) : Prop :=
 ((8:Int)≠0∧((1:Int)≤8∧(8:Int)≤256)∧(8:Int)≠0∧(0≤Int.tmod (n % 1016) (8:Int)∧Int.tmod (n % 1016) (8:Int)<(↑ (8:Nat):Int))∧0+(Int.tmod (n % 1016) (8:Int)).toNat<List.length (ordK k (IntKind.wrap .u8 (IntKind.wrap .i64 (128+IntKind.wrap
 .i64 (Int.tdiv (n % 1016) (8:Int))))) (8:Nat)))∧List.getD (ordK k (IntKind.wrap .u8 (IntKind.wrap .i64 (128+IntKind.wrap .i64 (Int.tdiv (n % 1016) (8:Int))))) (8:Nat)) (0+(Int.tmod (n % 1016) (8:Int)).toNat) (0:Int)=bandK k n
theorem vcd24 (k : List Int) (n : Int) : Pd24 k n = vcFun Cd24 (annd24 k n) Go.Proofs.Tryd.f18 [⟨.arr 16 (.int .u8), k⟩, ⟨.int .i64, n⟩] [] (outd24 k n) := by kernel_rfl

noncomputable def Cd55 : Ctx := ⟨Go.Proofs.Tryd.prog, D, Gd24, (fun _ _ => none), fun _ => []⟩
def annd55 (x i : Int) : Nat → St → Option Ann := fun _ _ => some ⟨Nat, [1], [], fun j => [(5, .v (.int .i64) (j : Int)), (0, .v (.int .u64) (x / 2 ^ j))], fun _ => [], fun j => j ≤ i.toNat, fun j => i.toNat - j⟩
def outd55 (x i : Int) : COut := ⟨[0 ≤ i ∧ i ≤ 100], .v (.int .i64) (if bitX x i.toNat then 1 else 0), [], []⟩
def spd55 : Spec := fun args ins => match args, ins with
  | [⟨.int .u64, x⟩, ⟨.int .i64, i⟩], [] => some (outd55 x i)
  | _, _ => none
def Gd55 := addG Gd24 96 spd55
def Pd55 (x i : Int) : Prop :=
 ∃ (x_1:Nat),((x=x / 2 ^ x_1∧i=i∧0=(x_1:Int))∧x_1≤i.toNat)∧∀ (x_2:Nat),x_2≤i.toNat→IntKind.min .i64≤(x_2:Int)∧(x_2:Int)≤IntKind.max .i64∧IntKind.min .u64≤x / 2 ^ x_2∧x / 2 ^ x_2≤IntKind.max .u64→bif decide ((x_2:Int)<i) then (2:Int)≠0∧∃
 (y:Nat),(IntKind.wrap .u64 (Int.tdiv (x / 2 ^ x_2) (2:Int))=x / 2 ^ y∧i=i∧IntKind.wrap .i64 ((x_2:Int)+1)=(y:Int))∧y≤i.toNat∧i.toNat - y<i.toNat - x_2 else (2:Int)≠0∧IntKind.wrap .i64 (Int.tmod (x / 2 ^ x_2) (2:Int))=if bitX x i.toNat=true
 then (1:Int) else (0:Int)
theorem vcd55 (x i : Int) : Pd55 x i = vcFun Cd55 (annd55 x i) Go.Proofs.Tryd.f96 [⟨.int .u64, x⟩, ⟨.int .i64, i⟩] [] (outd55 x i) := by kernel_rfl

end Go.SL.A

/- Masks and bytes of numbers: plain facts. -/
namespace Go.SL.A
open Go Go.SL Go.SL.S
set_option maxRecDepth 100000

theorem and_num (x : Int) (m : Nat) (hm : 2 ^ m ≤ 2 ^ 64) : (BitVec.ofInt 64 x &&& BitVec.ofInt 64 ((2 ^ m - 1 : Nat) : Int)).toNat = (x % 18446744073709551616).toNat % 2 ^ m := by
  have hp : 0 < 2 ^ m := Nat.pow_pos (by decide)
  rw [BitVec.toNat_and, BitVec.ofInt_natCast, BitVec.toNat_ofNat, BitVec.toNat_ofInt, Nat.mod_eq_of_lt (a := 2 ^ m - 1) (by omega), Nat.and_two_pow_sub_one_eq_mod]
  rfl
theorem wrap_u8 (x : Int) : IntKind.u8.wrap x = x % 256 := by simp [IntKind.wrap, IntKind.bits, IntKind.signed]
theorem pow8 (i : Nat) : (2 : Int) ^ (8 * i) = 256 ^ i := by
  rw [Int.pow_mul]; rfl
theorem sip_fit (k : List Int) (s : ByteArray) : 0 ≤ sipF k s ∧ sipF k s < 18446744073709551616 := by
  unfold sipF sumV
  exact ixor_fit _ _
theorem bytes_append (l m : List Int) : ByteArray.append (bytesOf l) (bytesOf m) = bytesOf (l ++ m) := by
  show bytesOf l ++ bytesOf m = _
  refine ByteArray.ext ?_
  rw [ByteArray.data_append]
  unfold bytesOf
  simp
theorem sg1 (w : Int) : seg (w :: List.replicate 0 0) 0 1 = [w] := rfl

end Go.SL.A

/- What a key makes of a number. -/
namespace Go.SL.A
open Go Go.SL Go.SL.S
set_option maxRecDepth 100000

theorem hwd109 {i x : Int} (hw : Go.SL.allP (List.flatMap (fun a : AV => a.t.wf a.x) [⟨.int .i64, i⟩, ⟨.ref .ptr, .ptr 0 (.int .u64) [0]⟩] ++ List.flatMap Blk.wf [⟨false, true, .int .u64, [x]⟩])) : 0 ≤ x ∧ x ≤ 18446744073709551615 := by
  simp only [List.flatMap_cons, List.flatMap_nil, Ty.wf, Blk.wf, List.append_nil, List.cons_append, List.nil_append, Go.SL.allP] at hw
  exact hw.2.2 x (List.Mem.head _)
theorem pured109 (i x : Int) (hp : 0 ≤ i ∧ i < 64) (hx : 0 ≤ x ∧ x ≤ 18446744073709551615) : Pd109 i x := by
  unfold Pd109
  refine ⟨hp.1, ?_⟩
  obtain ⟨n, rfl⟩ : ∃ n : Nat, i = n := ⟨i.toNat, by omega⟩
  rw [Int.toNat_natCast]
  exact ⟨bit_shr hx (i := n) (by omega), rfl, rfl⟩
theorem pured81 (x : Int) : Pd81 x := by
  unfold Pd81; trivial

theorem nbytes_len (n : Int) : (nbytes n).length = 8 := by simp [nbytes]
theorem nbytes_step (n : Int) {i : Nat} (hi : i < 8) : (nbytes n).take i ++ [n % 18446744073709551616 / 256 ^ i % 256] = (nbytes n).take (i + 1) := by
  rw [take_snoc' (0 : Int) (by rw [nbytes_len]; exact hi)]
  congr 1
  unfold nbytes
  rw [List.getD_eq_getElem?_getD, List.getElem?_map, List.getElem?_range hi]; rfl
theorem shr_byteU (p : Int) {i : Nat} (hi : i < 8) : IntKind.u8.wrap (ishr .u64 p (8 * (i : Int))) = p / 256 ^ i % 256 := by
  unfold ishr
  have e : min (8 * (i : Int)).toNat IntKind.u64.bits = 8 * i := by
    have : IntKind.u64.bits = 64 := rfl
    omega
  rw [e, pow8, Int.fdiv_eq_ediv_of_nonneg _ (Int.le_of_lt (pow256 i)), wrap_u8]
theorem numK_fit (k : List Int) (s n : Int) : 0 ≤ numK k s n ∧ numK k s n < 18446744073709551616 := sip_fit _ _

theorem pured82 (k : List Int) (s n : Int) : Pd82 k s n := by
  unfold Pd82
  simp only [eq_self, true_and, and_true, Nat.zero_add, sg1, List.length_singleton, List.length_cons, List.length_nil, List.length_take, nbytes_len]
  refine ⟨0, ⟨⟨rfl, rfl, rfl⟩, by omega⟩, fun i hi hw => ?_⟩
  clear hw
  by_cases h : (i : Int) < 8
  · have e : IntKind.i64.wrap (8 * (i : Int)) = 8 * (i : Int) := w64 (by omega) (by omega)
    rw [decide_eq_true h, cond_true, e, wrap_u64, shr_byteU _ (by omega)]
    refine ⟨⟨by omega, by omega, by omega, by omega⟩, i + 1, ⟨rfl, step_i (by omega), ?_⟩, by omega, by omega⟩
    exact congrArg (fun l => s :: l) (nbytes_step n (by omega))
  · have : i = 8 := by omega
    subst this
    have e1 : List.take 8 (nbytes n) = nbytes n := List.take_of_length_le (by rw [nbytes_len]; exact Nat.le_refl _)
    have e2 : seg (s :: nbytes n) 0 (8 + 1) = s :: nbytes n := by
      unfold seg
      rw [List.drop_zero, List.take_of_length_le (by rw [List.length_cons, nbytes_len]; exact Nat.le_refl _)]
    rw [decide_eq_false h, cond_false, e1, e2, size_of, List.length_cons, nbytes_len]
    exact ⟨⟨by omega, by omega⟩, rfl⟩

theorem pured54 (k : List Int) (s n : Int) : Pd54 k s n := by
  unfold Pd54
  simp only [eq_self, true_and, and_true, sg1, size_of, List.length_singleton, List.length_cons, List.length_nil, List.length_take, nbytes_len, bytes_append]
  refine ⟨by omega, 0, ⟨⟨rfl, by rw [wrap_u64, Int.pow_zero, Int.ediv_one], rfl⟩, by omega⟩, fun i hi hw => ?_⟩
  clear hw
  by_cases h : (i : Int) < 8
  · have hp : 0 ≤ n % 18446744073709551616 := Int.emod_nonneg _ (by decide)
    have hp2 : n % 18446744073709551616 < 18446744073709551616 := Int.emod_lt_of_pos _ (by decide)
    have hq : 0 ≤ n % 18446744073709551616 / 256 ^ i ∧ n % 18446744073709551616 / 256 ^ i ≤ n % 18446744073709551616 := ⟨Int.ediv_nonneg hp (Int.le_of_lt (pow256 i)), Int.ediv_le_self _ hp⟩
    have hnext : n % 18446744073709551616 / 256 ^ (i + 1) = n % 18446744073709551616 / 256 ^ i / 256 := by rw [Int.pow_succ, Int.ediv_ediv_of_nonneg (Int.le_of_lt (pow256 i))]
    have hst := nbytes_step n (i := i) (by omega)
    rw [decide_eq_true h, cond_true]
    generalize n % 18446744073709551616 / 256 ^ i = q at *
    have d := tdm q (k := 256) (by decide)
    have e1 : IntKind.u8.wrap (q.tmod 256) = q % 256 := by rw [wrap_u8]; omega
    have e2 : IntKind.u64.wrap (q.tdiv 256) = q / 256 := by rw [w_u64 (by omega) (by omega)]; omega
    rw [e1, e2]
    refine ⟨⟨by decide, by omega, by omega⟩, by decide, i + 1, ⟨?_, hnext.symm, step_i (by omega)⟩, by omega, by omega⟩
    rw [List.cons_append, hst]
  · have : i = 8 := by omega
    subst this
    have e1 : List.take 8 (nbytes n) = nbytes n := List.take_of_length_le (by rw [nbytes_len]; exact Nat.le_refl _)
    rw [decide_eq_false h, cond_false, e1]
    exact ⟨by omega, rfl⟩

theorem ord_len (k : List Int) (s : Int) (n m : Nat) : (ordTo k s n m).length = n := by
  induction m with
  | zero => simp [ordTo, iotaI]
  | succ m ih => rw [ordTo, swpI, List.length_set, List.length_set, ih]
theorem ord_step (k : List Int) (s : Int) (n m : Nat) : List.set (List.set (ordTo k s n m) (n - 1 - m) (List.getD (ordTo k s n m) (numK k s ((n - 1 - m : Nat) : Int) % ((n - m : Nat) : Int)).toNat 0)) (numK k s ((n - 1 - m : Nat) : Int) % ((n - m : Nat) : Int)).toNat (List.getD (ordTo k s n m) (n - 1 - m) 0) = ordTo k s n (m + 1) := rfl
theorem iota_len (n : Nat) : (iotaI n).length = n := by simp [iotaI]
theorem iota_at {n i : Nat} (hi : i < n) : (iotaI n)[i]? = some (i : Int) := by
  unfold iotaI; rw [List.getElem?_map, List.getElem?_range hi]; rfl
theorem iota_step (n : Nat) : iotaI n ++ [(n : Int)] = iotaI (n + 1) := by
  unfold iotaI
  rw [List.range_succ, List.map_append]; rfl

theorem pured62 (k : List Int) (s n : Int) (hp : 1 ≤ n ∧ n ≤ 256) : Pd62 k s n := by
  obtain ⟨N, rfl⟩ : ∃ N : Nat, n = N := ⟨n.toNat, by omega⟩
  unfold Pd62
  simp only [eq_self, true_and, and_true, Int.toNat_natCast, Nat.zero_add, ord_len, List.length_set]
  intro b hb
  have hb : false = b := by rw [← hb]; exact (decide_eq_false (by omega)).symm
  subst hb
  refine ⟨by simp, ?_⟩
  rw [cond_false, decide_eq_false (by omega), cond_false]
  refine ⟨⟨by omega, by omega, by omega⟩, 0, ⟨⟨rfl, rfl⟩, by omega⟩, fun i hi hw => ?_⟩
  clear hw
  by_cases h : (i : Int) < (N : Int)
  · rw [decide_eq_true h, cond_true]
    refine ⟨⟨⟨by omega, by omega⟩, by rw [List.length_append, List.length_take, List.length_drop, List.length_replicate, iota_len]; omega⟩, i + 1, ⟨step_i (by omega), set_step (by rw [iota_len]; omega) (by rw [List.length_replicate]; omega) (iota_at (by omega))⟩, by omega, by omega⟩
  · have : i = N := by omega
    subst this
    rw [decide_eq_false h, cond_false]
    refine ⟨0, ⟨⟨by rw [w64 (by omega) (by omega)]; omega, ?_⟩, by omega⟩, fun m hm hw => ?_⟩
    · show List.take i (iotaI i) ++ List.drop i (List.replicate i 0) = ordTo k s i 0
      rw [List.take_of_length_le (by rw [iota_len]; exact Nat.le_refl _), List.drop_eq_nil_of_le (by rw [List.length_replicate]; exact Nat.le_refl _), List.append_nil]; rfl
    clear hw
    have e0 : (i : Int) - 1 - (m : Int) = ((i - 1 - m : Nat) : Int) := by omega
    rw [e0]
    by_cases h2 : (0 : Int) < ((i - 1 - m : Nat) : Int)
    · have hf := numK_fit k s ((i - 1 - m : Nat) : Int)
      have hst := ord_step k s i m
      have e1 : IntKind.i64.wrap (((i - 1 - m : Nat) : Int) + 1) = ((i - m : Nat) : Int) := by rw [w64 (by omega) (by omega)]; omega
      have e2 : IntKind.u64.wrap ((i - m : Nat) : Int) = ((i - m : Nat) : Int) := w_u64 (by omega) (by omega)
      have e5 : IntKind.i64.wrap (((i - 1 - m : Nat) : Int) - 1) = (i : Int) - 1 - ((m + 1 : Nat) : Int) := by rw [w64 (by omega) (by omega)]; omega
      rw [decide_eq_true h2, cond_true, e1, e2, e5, Int.tmod_eq_emod_of_nonneg hf.1]
      generalize numK k s ((i - 1 - m : Nat) : Int) = x at *
      have r1 := Int.emod_nonneg x (b := ((i - m : Nat) : Int)) (by omega)
      have r2 := Int.emod_lt_of_pos x (b := ((i - m : Nat) : Int)) (by omega)
      have e4 : IntKind.i64.wrap (x % ((i - m : Nat) : Int)) = x % ((i - m : Nat) : Int) := w64 (by omega) (by omega)
      rw [e4, Int.toNat_natCast]
      exact ⟨by omega, ⟨⟨by omega, by omega⟩, by omega, ⟨by omega, by omega⟩, by omega, ⟨by omega, by omega⟩, by omega, ⟨by omega, by omega⟩, by omega⟩, m + 1, ⟨rfl, hst⟩, by omega, by omega⟩
    · have : m = i - 1 := by omega
      rw [decide_eq_false h2, cond_false, this]; rfl

theorem pured53 (k : List Int) (s n : Int) (hp : 1 ≤ n ∧ n ≤ 256) : Pd53 k s n := by
  obtain ⟨N, rfl⟩ : ∃ N : Nat, n = N := ⟨n.toNat, by omega⟩
  unfold Pd53
  simp only [eq_self, true_and, and_true, Int.toNat_natCast, Nat.zero_add, ord_len, List.length_set, iota_len, sg1, List.length_singleton]
  refine ⟨0, ⟨⟨rfl, rfl, rfl⟩, by omega⟩, fun i hi hw => ?_⟩
  clear hw
  by_cases h : (i : Int) < (N : Int)
  · rw [decide_eq_true h, cond_true]
    refine ⟨⟨by omega, by omega⟩, i + 1, ⟨rfl, step_i (by omega), ?_⟩, by omega, by omega⟩
    show List.drop 0 (iotaI i) ++ [(i : Int)] = _
    rw [List.drop_zero, iota_step]
  · have : i = N := by omega
    subst this
    rw [decide_eq_false h, cond_false]
    refine ⟨0, ⟨⟨by rw [w64 (by omega) (by omega)]; omega, rfl⟩, by omega⟩, fun m hm hw => ?_⟩
    clear hw
    have e0 : (i : Int) - 1 - (m : Int) = ((i - 1 - m : Nat) : Int) := by omega
    rw [e0]
    by_cases h2 : (1 : Int) ≤ ((i - 1 - m : Nat) : Int)
    · have hf := numK_fit k s ((i - 1 - m : Nat) : Int)
      have hst := ord_step k s i m
      have e1 : IntKind.i64.wrap (((i - 1 - m : Nat) : Int) + 1) = ((i - m : Nat) : Int) := by rw [w64 (by omega) (by omega)]; omega
      have e2 : IntKind.u64.wrap ((i - m : Nat) : Int) = ((i - m : Nat) : Int) := w_u64 (by omega) (by omega)
      have e5 : IntKind.i64.wrap (((i - 1 - m : Nat) : Int) - 1) = (i : Int) - 1 - ((m + 1 : Nat) : Int) := by rw [w64 (by omega) (by omega)]; omega
      rw [decide_eq_true h2, cond_true, e1, e2, e5, Int.tmod_eq_emod_of_nonneg hf.1]
      generalize numK k s ((i - 1 - m : Nat) : Int) = x at *
      have r1 := Int.emod_nonneg x (b := ((i - m : Nat) : Int)) (by omega)
      have r2 := Int.emod_lt_of_pos x (b := ((i - m : Nat) : Int)) (by omega)
      have e4 : IntKind.i64.wrap (x % ((i - m : Nat) : Int)) = x % ((i - m : Nat) : Int) := w64 (by omega) (by omega)
      rw [e4, Int.toNat_natCast]
      exact ⟨by omega, ⟨⟨by omega, by omega⟩, by omega⟩, ⟨⟨by omega, by omega⟩, by omega, ⟨by omega, by omega⟩, by omega⟩, ⟨⟨by omega, by omega⟩, by omega⟩, m + 1, ⟨rfl, hst⟩, by omega, by omega⟩
    · have : m = i - 1 := by omega
      rw [decide_eq_false h2, cond_false, this]; exact ⟨rfl, rfl⟩

theorem pured61 (n : Int) : Pd61 n := by
  unfold Pd61
  have d := tdm n (k := 1016) (by decide)
  have e1 : IntKind.i64.wrap (n.tmod 1016 + 1016) = n.tmod 1016 + 1016 := w64 (by omega) (by omega)
  have d2 := tdm (n.tmod 1016 + 1016) (k := 1016) (by decide)
  rw [e1]
  exact ⟨⟨by decide, by decide⟩, by omega⟩
theorem pured52 (n : Int) : Pd52 n := by
  unfold Pd52
  have d := tdm n (k := 1016) (by decide)
  refine ⟨by decide, ?_⟩
  by_cases h : n.tmod 1016 < 0
  · rw [decide_eq_true h, cond_true, w64 (by omega) (by omega)]; omega
  · rw [decide_eq_false h, cond_false]; omega

theorem ordK_len (k : List Int) (s : Int) (n : Nat) : (ordK k s n).length = n := ord_len _ _ _ _
theorem band_num (n : Int) : IntKind.u8.wrap (IntKind.i64.wrap (128 + IntKind.i64.wrap ((n % 1016).tdiv 8))) = 128 + n % 1016 / 8 ∧ (n % 1016).tmod 8 = n % 1016 % 8 := by
  have d := tdm (n % 1016) (k := 8) (by decide)
  have e1 : IntKind.i64.wrap ((n % 1016).tdiv 8) = n % 1016 / 8 := by rw [w64 (by omega) (by omega)]; omega
  refine ⟨?_, by omega⟩
  rw [e1, w64 (by omega) (by omega), wrap_u8]; omega
theorem pured24 (k : List Int) (n : Int) : Pd24 k n := by
  unfold Pd24
  obtain ⟨e1, e2⟩ := band_num n
  rw [e1, e2, ordK_len, Nat.zero_add]
  exact ⟨⟨by decide, ⟨by decide, by decide⟩, by decide, ⟨by omega, by omega⟩, by omega⟩, rfl⟩
theorem hwd55 {x i : Int} (hw : Go.SL.allP (List.flatMap (fun a : AV => a.t.wf a.x) [⟨.int .u64, x⟩, ⟨.int .i64, i⟩] ++ List.flatMap Blk.wf [])) : 0 ≤ x ∧ x < 18446744073709551616 := hwd120 hw
theorem pured55 (x i : Int) (hp : 0 ≤ i ∧ i ≤ 100) (hx : 0 ≤ x ∧ x < 18446744073709551616) : Pd55 x i := by
  unfold Pd55
  simp only [eq_self, true_and, and_true]
  have hq : ∀ j : Nat, 0 ≤ x / 2 ^ j ∧ x / 2 ^ j ≤ x := fun j => ⟨Int.ediv_nonneg hx.1 (Int.le_of_lt (Int.pow_pos (by decide))), Int.ediv_le_self _ hx.1⟩
  refine ⟨0, ⟨⟨by rw [Int.pow_zero, Int.ediv_one], rfl⟩, by omega⟩, fun j hj hw => ?_⟩
  clear hw
  have hj2 := hq j
  by_cases h : (j : Int) < i
  · have hnext : x / 2 ^ (j + 1) = x / 2 ^ j / 2 := by rw [Int.pow_succ, Int.ediv_ediv_of_nonneg (Int.le_of_lt (Int.pow_pos (by decide)))]
    rw [decide_eq_true h, cond_true]
    have d := tdm (x / 2 ^ j) (k := 2) (by decide)
    exact ⟨by decide, j + 1, ⟨by rw [hnext, w_u64 (by omega) (by omega)]; omega, step_i (by omega)⟩, by omega, by omega⟩
  · have : j = i.toNat := by omega
    have d := tdm (x / 2 ^ j) (k := 2) (by decide)
    rw [decide_eq_false h, cond_false]
    refine ⟨by decide, ?_⟩
    unfold bitX
    rw [← this, w64 (by omega) (by omega)]
    by_cases hb : x / 2 ^ j % 2 = 1
    · rw [decide_eq_true hb, if_pos rfl]; omega
    · rw [decide_eq_false hb, if_neg (by simp)]; omega
end Go.SL.A

/- Functions do what they are held to do. -/
namespace Go.SL.A
open Go Go.SL Go.SL.S
theorem sndd109 : Sound Go.Proofs.Tryd.prog Gd109 := sndd73.add ⟨_, Go.Proofs.Tryd.func135, by kernel_rfl, by kernel_rfl⟩ (by
  intro args ins out h hp
  unfold spd109 at h
  split at h
  · rename_i i x
    cases h
    exact vcFun_ok (C := Cd109) good sndd73 Meth.none mix Go.Proofs.Tryd.func135 (annd109 i x) (fun hw => by rw [← vcd109 i x]; exact pured109 i x hp (hwd109 hw))
  · cases h)

theorem sndd81 : Sound Go.Proofs.Tryd.prog Gd81 := sndd109.add ⟨_, Go.Proofs.Tryd.func99, by kernel_rfl, by kernel_rfl⟩ (by
  intro args ins out h hp
  unfold spd81 at h
  split at h
  · rename_i x
    cases h
    exact vcFun_ok (C := Cd81) good sndd109 Meth.none mix Go.Proofs.Tryd.func99 (annd81 x) (fun hw => by rw [← vcd81 x]; exact pured81 x)
  · cases h)

theorem sndd82 : Sound Go.Proofs.Tryd.prog Gd82 := sndd81.add ⟨_, Go.Proofs.Tryd.func92, by kernel_rfl, by kernel_rfl⟩ (by
  intro args ins out h hp
  unfold spd82 at h
  split at h
  · rename_i k s n
    cases h
    exact vcFun_ok (C := Cd82) good sndd81 Meth.none mix Go.Proofs.Tryd.func92 (annd82 k s n) (fun hw => by rw [← vcd82 k s n]; exact pured82 k s n)
  · cases h)

theorem sndd54 : Sound Go.Proofs.Tryd.prog Gd54 := sndd82.add ⟨_, Go.Proofs.Tryd.func95, by kernel_rfl, by kernel_rfl⟩ (by
  intro args ins out h hp
  unfold spd54 at h
  split at h
  · rename_i k s n
    cases h
    exact vcFun_ok (C := Cd54) good sndd82 Meth.none mix Go.Proofs.Tryd.func95 (annd54 k s n) (fun hw => by rw [← vcd54 k s n]; exact pured54 k s n)
  · cases h)

theorem sndd62 : Sound Go.Proofs.Tryd.prog Gd62 := sndd54.add ⟨_, Go.Proofs.Tryd.func49, by kernel_rfl, by kernel_rfl⟩ (by
  intro args ins out h hp
  unfold spd62 at h
  split at h
  · rename_i k s n
    cases h
    exact vcFun_ok (C := Cd62) good sndd54 Meth.none mix Go.Proofs.Tryd.func49 (annd62 k s n) (fun hw => by rw [← vcd62 k s n]; exact pured62 k s n hp)
  · cases h)

theorem sndd53 : Sound Go.Proofs.Tryd.prog Gd53 := sndd62.add ⟨_, Go.Proofs.Tryd.func52, by kernel_rfl, by kernel_rfl⟩ (by
  intro args ins out h hp
  unfold spd53 at h
  split at h
  · rename_i k s n
    cases h
    exact vcFun_ok (C := Cd53) good sndd62 Meth.none mix Go.Proofs.Tryd.func52 (annd53 k s n) (fun hw => by rw [← vcd53 k s n]; exact pured53 k s n hp)
  · cases h)

theorem sndd61 : Sound Go.Proofs.Tryd.prog Gd61 := sndd53.add ⟨_, Go.Proofs.Tryd.func48, by kernel_rfl, by kernel_rfl⟩ (by
  intro args ins out h hp
  unfold spd61 at h
  split at h
  · rename_i n
    cases h
    exact vcFun_ok (C := Cd61) good sndd53 Meth.none mix Go.Proofs.Tryd.func48 (annd61 n) (fun hw => by rw [← vcd61 n]; exact pured61 n)
  · cases h)

theorem sndd52 : Sound Go.Proofs.Tryd.prog Gd52 := sndd61.add ⟨_, Go.Proofs.Tryd.func29, by kernel_rfl, by kernel_rfl⟩ (by
  intro args ins out h hp
  unfold spd52 at h
  split at h
  · rename_i n
    cases h
    exact vcFun_ok (C := Cd52) good sndd61 Meth.none mix Go.Proofs.Tryd.func29 (annd52 n) (fun hw => by rw [← vcd52 n]; exact pured52 n)
  · cases h)

theorem sndd24 : Sound Go.Proofs.Tryd.prog Gd24 := sndd52.add ⟨_, Go.Proofs.Tryd.func18, by kernel_rfl, by kernel_rfl⟩ (by
  intro args ins out h hp
  unfold spd24 at h
  split at h
  · rename_i k n
    cases h
    exact vcFun_ok (C := Cd24) good sndd52 Meth.none mix Go.Proofs.Tryd.func18 (annd24 k n) (fun hw => by rw [← vcd24 k n]; exact pured24 k n)
  · cases h)

theorem sndd55 : Sound Go.Proofs.Tryd.prog Gd55 := sndd24.add ⟨_, Go.Proofs.Tryd.func96, by kernel_rfl, by kernel_rfl⟩ (by
  intro args ins out h hp
  unfold spd55 at h
  split at h
  · rename_i x i
    cases h
    exact vcFun_ok (C := Cd55) good sndd24 Meth.none mix Go.Proofs.Tryd.func96 (annd55 x i) (fun hw => by rw [← vcd55 x i]; exact pured55 x i hp (hwd55 hw))
  · cases h)

end Go.SL.A

/- Functions and what they are held to do: bound to their code. -/
namespace Go.SL.A
open Go Go.SL Go.SL.S
set_option maxRecDepth 100000
noncomputable def Cd47 : Ctx := ⟨Go.Proofs.Tryd.prog, D, Gd55, (fun _ _ => none), fun _ => []⟩
def annd47 (k : List Int) (n : Int) : Nat → St → Option Ann := fun _ _ => some ⟨Nat, [4, 5, 6], [1, 2], fun i => [(13, .v (.int .i64) (i : Int))], fun i => [(3, some ⟨false, true, .arr 4 (.int .i64), [(chipsK k n).take i ++ (List.replicate 4 0).drop i]⟩)], fun i => i ≤ 4, fun i => 4 - i⟩
def outd47 (k : List Int) (n : Int) : COut := ⟨[], .v (.arr 4 (.int .i64)) (chipsK k n), [], []⟩
def spd47 : Spec := fun args ins => match args, ins with
  | [⟨.arr 16 (.int .u8), k⟩, ⟨.int .i64, n⟩], [] => some (outd47 k n)
  | _, _ => none
def Gd47 := addG Gd55 58 spd47
def Pd47 (k : List Int) (n : Int) : Prop :=
 ∃ (x:Nat),((0=0∧0=0∧0=0∧0=(x:Int)∧(0:Int) :: List.replicate (nat_lit 3) (0:Int)=List.replicate 4 (0:Int)∧false=false∧numK k (99:Int) (n % 1016)=numK k (99:Int) (n % 1016)∧false=false∧(0:Int) :: List.replicate (nat_lit 3) (0:Int)=List.take
 x (chipsK k n) ++ List.drop x (List.replicate 4 (0:Int))∧false=false)∧x≤4)∧∀ (x:Nat),x≤4→(IntKind.min .i64≤(x:Int)∧(x:Int)≤IntKind.max .i64∧∀ (y:List Int),List.Mem y [List.take x (chipsK k n) ++ List.drop x (List.replicate 4 (0:Int))]→List.length
 y=4∧∀ (y_1:Int),List.Mem y_1 y→IntKind.min .i64≤y_1∧y_1≤IntKind.max .i64)→bif decide ((x:Int)<4) then ((0≤(x:Int)∧(x:Int)<(↑ (4:Nat):Int))∧(x:Int).toNat<4)∧(0≤(x:Int)∧(x:Int)<64)∧bif bitX (numK k (99:Int) (n % 1016)) (x:Int).toNat then
 ((0≤(x:Int)∧(x:Int)<(↑ (4:Nat):Int))∧(x:Int).toNat<4)∧∃ (y:Nat),(0=0∧0=0∧0=0∧IntKind.wrap .i64 ((x:Int)+1)=(y:Int)∧(0:Int) :: List.replicate (nat_lit 3) (0:Int)=List.replicate 4 (0:Int)∧false=false∧numK k (99:Int) (n % 1016)=numK k
 (99:Int) (n % 1016)∧false=false∧List.set (List.set (List.take x (chipsK k n) ++ List.drop x (List.replicate 4 (0:Int))) (x:Int).toNat (1:Int)) (x:Int).toNat (-1:Int)=List.take y (chipsK k n) ++ List.drop y (List.replicate 4 (0:Int))∧false=false)∧y≤4∧4
 - y<4 - x else ∃ (y:Nat),(0=0∧0=0∧0=0∧IntKind.wrap .i64 ((x:Int)+1)=(y:Int)∧(0:Int) :: List.replicate (nat_lit 3) (0:Int)=List.replicate 4 (0:Int)∧false=false∧numK k (99:Int) (n % 1016)=numK k (99:Int) (n % 1016)∧false=false∧List.set
 (List.take x (chipsK k n) ++ List.drop x (List.replicate 4 (0:Int))) (x:Int).toNat (1:Int)=List.take y (chipsK k n) ++ List.drop y (List.replicate 4 (0:Int))∧false=false)∧y≤4∧4 - y<4 - x else List.append (List.take x (chipsK k n)) (List.drop
 x (List.replicate 4 (0:Int)))=chipsK k n
theorem vcd47 (k : List Int) (n : Int) : Pd47 k n = vcFun Cd47 (annd47 k n) Go.Proofs.Tryd.f58 [⟨.arr 16 (.int .u8), k⟩, ⟨.int .i64, n⟩] [] (outd47 k n) := by kernel_rfl

noncomputable def Cd20 : Ctx := ⟨Go.Proofs.Tryd.prog, D, Gd47, (fun _ _ => none), fun _ => []⟩
def annd20 (_k : List Int) (_n : Int) : Nat → St → Option Ann := fun _ _ => none
def outd20 (k : List Int) (n : Int) : COut := ⟨[], .v (.arr 4 (.int .i64)) (chipsK k n), [], []⟩
def spd20 : Spec := fun args ins => match args, ins with
  | [⟨.arr 16 (.int .u8), k⟩, ⟨.int .i64, n⟩], [] => some (outd20 k n)
  | _, _ => none
def Gd20 := addG Gd47 53 spd20
def Pd20 (k : List Int) (n : Int) : Prop :=
 (((0:Int)≤0∧(0:Int)≤100)∧((0:Int)≤1∧(1:Int)≤100)∧((0:Int)≤2∧(2:Int)≤100)∧(0:Int)≤3∧(3:Int)≤100)∧IntKind.wrap .i64 (1 - IntKind.wrap .i64 ((2:Int) * if bitX (numK k (99:Int) (n % 1016)) (0:Nat)=true then (1:Int) else (0:Int))) :: List.set
 (List.set (List.set (List.replicate (nat_lit 3) (0:Int)) (nat_lit 0) (IntKind.wrap .i64 (1 - IntKind.wrap .i64 ((2:Int) * if bitX (numK k (99:Int) (n % 1016)) (1:Nat)=true then (1:Int) else (0:Int))))) (nat_lit 1) (IntKind.wrap .i64
 (1 - IntKind.wrap .i64 ((2:Int) * if bitX (numK k (99:Int) (n % 1016)) (2:Nat)=true then (1:Int) else (0:Int))))) (nat_lit 2) (IntKind.wrap .i64 (1 - IntKind.wrap .i64 ((2:Int) * if bitX (numK k (99:Int) (n % 1016)) (3:Nat)=true then
 (1:Int) else (0:Int))))=chipsK k n
theorem vcd20 (k : List Int) (n : Int) : Pd20 k n = vcFun Cd20 (annd20 k n) Go.Proofs.Tryd.f53 [⟨.arr 16 (.int .u8), k⟩, ⟨.int .i64, n⟩] [] (outd20 k n) := by kernel_rfl

end Go.SL.A

/- A frame's chips. -/
namespace Go.SL.A
open Go Go.SL Go.SL.S
set_option maxRecDepth 100000

theorem chipK_len (x : Int) : (chipK x).length = 4 := by simp [chipK]
theorem chipK_at (x : Int) {i : Nat} (hi : i < 4) : (chipK x)[i]? = some (if bitX x i then -1 else 1) := by
  unfold chipK; rw [List.getElem?_map, List.getElem?_range hi]; rfl
theorem pured47 (k : List Int) (n : Int) : Pd47 k n := by
  unfold Pd47
  unfold chipsK
  have z : (0 : Int) :: List.replicate 3 0 = List.replicate 4 0 := rfl
  simp only [eq_self, true_and, and_true, Int.toNat_natCast, z]
  generalize numK k 99 (n % 1016) = x
  have hl := chipK_len x
  have ha : ∀ i, i < 4 → (chipK x)[i]? = some (if bitX x i then -1 else 1) := fun i hi => chipK_at x hi
  generalize chipK x = f at *
  refine ⟨0, ⟨⟨rfl, rfl⟩, by omega⟩, fun i hi hw => ?_⟩
  clear hw
  by_cases h : (i : Int) < 4
  · have hv := ha i (by omega)
    rw [decide_eq_true h, cond_true, List.set_set]
    refine ⟨⟨⟨by omega, by omega⟩, by omega⟩, ⟨by omega, by omega⟩, ?_⟩
    cases hb : bitX x i with
    | true =>
      rw [hb, if_pos rfl] at hv
      rw [cond_true]
      exact ⟨⟨⟨by omega, by omega⟩, by omega⟩, i + 1, ⟨step_i (by omega), set_step (by omega) (by rw [List.length_replicate]; omega) hv⟩, by omega, by omega⟩
    | false =>
      rw [hb, if_neg (by simp)] at hv
      rw [cond_false]
      exact ⟨i + 1, ⟨step_i (by omega), set_step (by omega) (by rw [List.length_replicate]; omega) hv⟩, by omega, by omega⟩
  · have : i = 4 := by omega
    subst this
    rw [decide_eq_false h, cond_false]
    show List.take 4 f ++ List.drop 4 (List.replicate 4 0) = f
    rw [List.take_of_length_le (by omega), List.drop_eq_nil_of_le (by rw [List.length_replicate]; omega), List.append_nil]
theorem chip1 (b : Bool) : IntKind.i64.wrap (1 - IntKind.i64.wrap (2 * if b = true then 1 else 0)) = if b = true then -1 else 1 := by cases b <;> decide
theorem pured20 (k : List Int) (n : Int) : Pd20 k n := by
  unfold Pd20
  unfold chipsK
  simp only [chip1]
  refine ⟨⟨⟨by decide, by decide⟩, ⟨by decide, by decide⟩, ⟨by decide, by decide⟩, by decide, by decide⟩, ?_⟩
  generalize numK k 99 (n % 1016) = x
  rfl
end Go.SL.A

/- Functions do what they are held to do. -/
namespace Go.SL.A
open Go Go.SL Go.SL.S
theorem sndd47 : Sound Go.Proofs.Tryd.prog Gd47 := sndd55.add ⟨_, Go.Proofs.Tryd.func58, by kernel_rfl, by kernel_rfl⟩ (by
  intro args ins out h hp
  unfold spd47 at h
  split at h
  · rename_i k n
    cases h
    exact vcFun_ok (C := Cd47) good sndd55 Meth.none mix Go.Proofs.Tryd.func58 (annd47 k n) (fun hw => by rw [← vcd47 k n]; exact pured47 k n)
  · cases h)

theorem sndd20 : Sound Go.Proofs.Tryd.prog Gd20 := sndd47.add ⟨_, Go.Proofs.Tryd.func53, by kernel_rfl, by kernel_rfl⟩ (by
  intro args ins out h hp
  unfold spd20 at h
  split at h
  · rename_i k n
    cases h
    exact vcFun_ok (C := Cd20) good sndd47 Meth.none mix Go.Proofs.Tryd.func53 (annd20 k n) (fun hw => by rw [← vcd20 k n]; exact pured20 k n)
  · cases h)

end Go.SL.A

/- Plain functions of pvq. -/
namespace Go.SL.S
open Go

def sz13 (x : Int) : Int := if x < -12 ∨ 12 < x then 13 else max x (-x)

def cntRow (prev : Nat → Int) : Nat → Int
  | 0 => prev 0
  | k + 1 => cntRow prev k + prev k + prev (k + 1)
def cnt0 : Nat → Int
  | 0 => 1
  | _ + 1 => 0
/-- So many vectors of n numbers have k pulses. -/
def cnt : Nat → Nat → Int
  | 0 => cnt0
  | n + 1 => cntRow (cnt n)

def sumTo (f : Nat → Int) : Nat → Int
  | 0 => 0
  | j + 1 => sumTo f j + f j

def tab (f : Nat → Nat → Int) : List (List Int) := (List.range 9).map fun m => (List.range 13).map fun j => f m j
def tabF : List (List Int) := tab cnt
def f1 (n m j : Nat) : Int := if m < n then cnt m j else 0
def f2 (n k m j : Nat) : Int := if m < n ∨ (m = n ∧ j < k) then cnt m j else 0
def f3 (n k i m j : Nat) : Int := if m < n ∨ (m = n ∧ j < k) then cnt m j else if m = n ∧ j = k then cnt (n - 1) k + 2 * sumTo (cnt (n - 1)) i else 0

def mayF (n k : Int) : Bool := decide (0 ≤ n ∧ n ≤ 8 ∧ 0 ≤ k ∧ k ≤ 12)
def countF (n k : Int) : Int := if mayF n k then cnt n.toNat k.toNat else 0

def sumSz : List Int → Int
  | [] => 0
  | x :: l => sz13 x + sumSz l
def pulsesF (y : List Int) : Int := if 8 < y.length then 13 else min (sumSz y) 13

/-- 0, 1, -1, 2, .. up to k. -/
def numsF : Nat → List Int
  | 0 => [0]
  | k + 1 => numsF k ++ [((k + 1 : Nat) : Int), -((k + 1 : Nat) : Int)]

def idxFrom (v : Int) : List Int → Nat → Int
  | [], _ => -1
  | x :: l, i => if v = x then (i : Int) else idxFrom v l (i + 1)
def idxF (l : List Int) (v : Int) : Int := idxFrom v l 0
end Go.SL.S
namespace Go.SL.A
open Go Go.SL
end Go.SL.A

/- Functions and what they are held to do: bound to their code. -/
namespace Go.SL.A
open Go Go.SL Go.SL.S
set_option maxRecDepth 100000
noncomputable def C85 : Ctx := ⟨Go.Proofs.Tryd.prog, D, Gd20, (fun _ _ => none), fun _ => []⟩
def ann85 (_n _k : Int) : Nat → St → Option Ann := fun _ _ => none
def out85 (n k : Int) : COut := ⟨[], .v .bool (mayF n k), [], []⟩
def sp85 : Spec := fun args ins => match args, ins with
  | [⟨.int .i64, n⟩, ⟨.int .i64, k⟩], [] => some (out85 n k)
  | _, _ => none
def G85 := addG Gd20 76 sp85
def P85 (n k : Int) : Prop :=
 ∀ (b:Bool),decide (0≤n)=b→∀ (b_1:Bool),(bif b then decide (n≤8) else false)=b_1→∀ (b_2:Bool),(bif b_1 then decide (0≤k) else false)=b_2→((b=true→b=true)∧(b=true→b=true)∧(b_1=true→b_1=true)∧(b_1=true→b_1=true)∧(b_2=true→b_2=true)∧(b_2=true→b_2=true))∧(bif
 b_2 then decide (k≤12) else false)=mayF n k
theorem vc85 (n k : Int) : P85 n k = vcFun C85 (ann85 n k) Go.Proofs.Tryd.f76 [⟨.int .i64, n⟩, ⟨.int .i64, k⟩] [] (out85 n k) := by kernel_rfl

noncomputable def C86 : Ctx := ⟨Go.Proofs.Tryd.prog, D, G85, (fun _ _ => none), fun _ => []⟩
def ann86  : Nat → St → Option Ann := fun id S => match id with | 0 => some ⟨Nat, [1], [], fun n => [(2, .v (.int .i64) (n : Int))], fun n => [(0, some ⟨false, true, .arr 9 (.arr 13 (.int .i64)), [tab (f1 n)]⟩)], fun n => 1 ≤ n ∧ n ≤ 9, fun n => 9 - n⟩ | 2 => some ⟨Nat, [1, 2], [], fun k => [(11, .v (.int .i64) (k : Int))], fun k => [(0, some ⟨false, true, .arr 9 (.arr 13 (.int .i64)), [tab (f2 (S.i 2).toNat k)]⟩)], fun k => k ≤ 13, fun k => 13 - k⟩ | _ => some ⟨Nat, [1, 2, 3, 11, 24], [], fun i => [(25, .v (.int .i64) (i : Int))], fun i => [(0, some ⟨false, true, .arr 9 (.arr 13 (.int .i64)), [tab (f3 (S.i 2).toNat (S.i 3).toNat i)]⟩)], fun i => i ≤ (S.i 3).toNat, fun i => (S.i 3).toNat - i⟩
def out86  : COut := ⟨[], .v (.ref .ptr) (.ptr 0 (.arr 9 (.arr 13 (.int .i64))) [0]), [], [⟨false, true, .arr 9 (.arr 13 (.int .i64)), [tabF]⟩]⟩
def sp86 : Spec := fun args ins => match args, ins with
  | [], [] => some out86
  | _, _ => none
def G86 := addG G85 77 sp86
def P86 : Prop :=
 (((0:Int)≤0∧0<(↑ (9:Nat):Int))∧((0:Int)≤0∧0<(↑ (13:Nat):Int))∧(0:Nat)<9∧(0:Nat)<13)∧∃ (x:Nat),((0=0∧1=(x:Int)∧List.set (List.getD (List.replicate 9 (List.replicate 13 (0:Int))) (0:Nat) (List.replicate 13 (0:Int))) (0:Nat) (1:Int) ::
 List.replicate (nat_lit 8) (List.replicate 13 (0:Int))=tab (f1 x)∧false=false)∧1≤x∧x≤9)∧∀ (x:Nat),1≤x∧x≤9→(IntKind.min .i64≤(x:Int)∧(x:Int)≤IntKind.max .i64∧∀ (y:List (List Int)),List.Mem y [tab (f1 x)]→List.length y=9∧∀ (y_1:List Int),List.Mem
 y_1 y→List.length y_1=13∧∀ (y:Int),List.Mem y y_1→IntKind.min .i64≤y∧y≤IntKind.max .i64)→bif decide ((x:Int)≤8) then ∃ (x_1:Nat),((0=0∧(x:Int)=(x:Int)∧0=(x_1:Int)∧tab (f1 x)=tab (f2 (x:Int).toNat x_1)∧false=false)∧x_1≤13)∧∀ (x_2:Nat),x_2≤13→(IntKind.min
 .i64≤(x_2:Int)∧(x_2:Int)≤IntKind.max .i64∧∀ (y:List (List Int)),List.Mem y [tab (f2 (x:Int).toNat x_2)]→List.length y=9∧∀ (y_1:List Int),List.Mem y_1 y→List.length y_1=13∧∀ (y:Int),List.Mem y y_1→IntKind.min .i64≤y∧y≤IntKind.max .i64)→bif
 decide ((x_2:Int)<13) then ((0≤IntKind.wrap .i64 ((x:Int) - 1)∧IntKind.wrap .i64 ((x:Int) - 1)<(↑ (9:Nat):Int))∧(0≤(x_2:Int)∧(x_2:Int)<(↑ (13:Nat):Int))∧(IntKind.wrap .i64 ((x:Int) - 1)).toNat<9∧(x_2:Int).toNat<13∧(0≤(x:Int)∧(x:Int)<(↑
 (9:Nat):Int))∧(0≤(x_2:Int)∧(x_2:Int)<(↑ (13:Nat):Int))∧(x:Int).toNat<9∧(x_2:Int).toNat<13)∧∃ (x_3:Nat),((0=0∧(x:Int)=(x:Int)∧(x_2:Int)=(x_2:Int)∧(x_2:Int)=(x_2:Int)∧(x_2:Int)=(x_2:Int)∧0=(x_3:Int)∧List.set (tab (f2 (x:Int).toNat x_2))
 (x:Int).toNat (List.set (List.getD (tab (f2 (x:Int).toNat x_2)) (x:Int).toNat (List.replicate 13 (0:Int))) (x_2:Int).toNat (List.getD (List.getD (tab (f2 (x:Int).toNat x_2)) (IntKind.wrap .i64 ((x:Int) - 1)).toNat (List.replicate 13
 (0:Int))) (x_2:Int).toNat (0:Int)))=tab (f3 (x:Int).toNat (x_2:Int).toNat x_3)∧false=false)∧x_3≤(x_2:Int).toNat)∧∀ (x_4:Nat),x_4≤(x_2:Int).toNat→(IntKind.min .i64≤(x_4:Int)∧(x_4:Int)≤IntKind.max .i64∧∀ (y:List (List Int)),List.Mem y
 [tab (f3 (x:Int).toNat (x_2:Int).toNat x_4)]→List.length y=9∧∀ (y_1:List Int),List.Mem y_1 y→List.length y_1=13∧∀ (y:Int),List.Mem y y_1→IntKind.min .i64≤y∧y≤IntKind.max .i64)→bif decide ((x_4:Int)<(x_2:Int)) then ((0≤(x:Int)∧(x:Int)<(↑
 (9:Nat):Int))∧(0≤(x_2:Int)∧(x_2:Int)<(↑ (13:Nat):Int))∧(x:Int).toNat<9∧(x_2:Int).toNat<13∧(0≤IntKind.wrap .i64 ((x:Int) - 1)∧IntKind.wrap .i64 ((x:Int) - 1)<(↑ (9:Nat):Int))∧(0≤(x_4:Int)∧(x_4:Int)<(↑ (13:Nat):Int))∧(IntKind.wrap .i64
 ((x:Int) - 1)).toNat<9∧(x_4:Int).toNat<13∧(0≤(x:Int)∧(x:Int)<(↑ (9:Nat):Int))∧(0≤(x_2:Int)∧(x_2:Int)<(↑ (13:Nat):Int))∧(x:Int).toNat<9∧(x_2:Int).toNat<13)∧∃ (y:Nat),(0=0∧(x:Int)=(x:Int)∧(x_2:Int)=(x_2:Int)∧(x_2:Int)=(x_2:Int)∧(x_2:Int)=(x_2:Int)∧IntKind.wrap
 .i64 ((x_4:Int)+1)=(y:Int)∧List.set (tab (f3 (x:Int).toNat (x_2:Int).toNat x_4)) (x:Int).toNat (List.set (List.getD (tab (f3 (x:Int).toNat (x_2:Int).toNat x_4)) (x:Int).toNat (List.replicate 13 (0:Int))) (x_2:Int).toNat (IntKind.wrap
 .i64 (List.getD (List.getD (tab (f3 (x:Int).toNat (x_2:Int).toNat x_4)) (x:Int).toNat (List.replicate 13 (0:Int))) (x_2:Int).toNat (0:Int)+IntKind.wrap .i64 ((2:Int) * List.getD (List.getD (tab (f3 (x:Int).toNat (x_2:Int).toNat x_4))
 (IntKind.wrap .i64 ((x:Int) - 1)).toNat (List.replicate 13 (0:Int))) (x_4:Int).toNat (0:Int)))))=tab (f3 (x:Int).toNat (x_2:Int).toNat y)∧false=false)∧y≤(x_2:Int).toNat∧(x_2:Int).toNat - y<(x_2:Int).toNat - x_4 else ∃ (y:Nat),(0=0∧(x:Int)=(x:Int)∧IntKind.wrap
 .i64 ((x_2:Int)+1)=(y:Int)∧tab (f3 (x:Int).toNat (x_2:Int).toNat x_4)=tab (f2 (x:Int).toNat y)∧false=false)∧y≤13∧13 - y<13 - x_2 else ∃ (y:Nat),(0=0∧IntKind.wrap .i64 ((x:Int)+1)=(y:Int)∧tab (f2 (x:Int).toNat x_2)=tab (f1 y)∧false=false)∧(1≤y∧y≤9)∧9
 - y<9 - x else 0=0∧tab (f1 x)=tabF∧false=false
theorem vc86 : P86  = vcFun C86 (ann86 ) Go.Proofs.Tryd.f77 [] [] out86 := by kernel_rfl

noncomputable def C41 : Ctx := ⟨Go.Proofs.Tryd.prog, D, G86, (fun _ _ => none), fun _ => []⟩
def ann41 (_n _k : Int) : Nat → St → Option Ann := fun _ _ => none
def out41 (n k : Int) : COut := ⟨[], .v (.int .i64) (countF n k), [], []⟩
def sp41 : Spec := fun args ins => match args, ins with
  | [⟨.int .i64, n⟩, ⟨.int .i64, k⟩], [] => some (out41 n k)
  | _, _ => none
def G41 := addG G86 39 sp41
def P41 (n k : Int) : Prop :=
 bif !mayF n k then 0=countF n k else ((0≤n∧n<(↑ (9:Nat):Int))∧(0≤k∧k<(↑ (13:Nat):Int))∧n.toNat<9∧k.toNat<13)∧List.getD (List.getD tabF n.toNat (List.replicate 13 (0:Int))) k.toNat (0:Int)=countF n k
theorem vc41 (n k : Int) : P41 n k = vcFun C41 (ann41 n k) Go.Proofs.Tryd.f39 [⟨.int .i64, n⟩, ⟨.int .i64, k⟩] [] (out41 n k) := by kernel_rfl

noncomputable def C89 : Ctx := ⟨Go.Proofs.Tryd.prog, D, G41, (fun _ _ => none), fun _ => []⟩
def ann89 (_x : Int) : Nat → St → Option Ann := fun _ _ => none
def out89 (x : Int) : COut := ⟨[], .v (.int .i64) (sz13 x), [], []⟩
def sp89 : Spec := fun args ins => match args, ins with
  | [⟨.int .i64, x⟩], [] => some (out89 x)
  | _, _ => none
def G89 := addG G41 81 sp89
def P89 (x : Int) : Prop :=
 ∀ (b:Bool),decide (x<(-12:Int))=b→(((!b)=true→(!b)=true)∧(b=false→(!b)=true))∧bif bif b then true else decide (12<x) then 13=sz13 x else max x (IntKind.wrap .i64 (0 - x))=sz13 x
theorem vc89 (x : Int) : P89 x = vcFun C89 (ann89 x) Go.Proofs.Tryd.f81 [⟨.int .i64, x⟩] [] (out89 x) := by kernel_rfl

noncomputable def C44 : Ctx := ⟨Go.Proofs.Tryd.prog, D, G89, (fun _ _ => none), fun _ => []⟩
def ann44 (_r : Bool) (_n : Nat) (y : List Int) : Nat → St → Option Ann := fun _ _ => some ⟨Nat, [9, 10], [0], fun k => [(11, .v (.int .i64) (k : Int)), (3, .v (.int .i64) (sumSz (y.take k)))], fun _ => [], fun k => k ≤ y.length, fun k => y.length - k⟩
def out44 (_r : Bool) (n : Nat) (y : List Int) : COut := ⟨[n = y.length], .v (.int .i64) (pulsesF y), [], []⟩
def sp44 : Spec := fun args ins => match args, ins with
  | [⟨.ref .slice, .slice 0 (.int .i64) [] 0 n⟩], [⟨r, false, .int .i64, y⟩] => some (out44 r n y)
  | _, _ => none
def G44 := addG G89 64 sp44
def P44 (r : Bool) (n : Nat) (y : List Int) : Prop :=
 bif decide (8<(n:Int)) then 13=pulsesF y∧y=y∧r=r else ∃ (x:Nat),((0=sumSz (List.take x y)∧0=0∧n=n∧(n:Int)=(n:Int)∧0=(x:Int)∧y=y∧r=r)∧x≤List.length y)∧∀ (x:Nat),x≤List.length y→IntKind.min .i64≤(x:Int)∧(x:Int)≤IntKind.max .i64∧IntKind.min
 .i64≤sumSz (List.take x y)∧sumSz (List.take x y)≤IntKind.max .i64→bif decide ((x:Int)<(n:Int)) then ((0≤(x:Int)∧(x:Int)<(n:Int))∧0+(x:Int).toNat<List.length y)∧∃ (y_1:Nat),(IntKind.wrap .i64 (sumSz (List.take x y)+sz13 (List.getD y
 (0+(x:Int).toNat) (0:Int)))=sumSz (List.take y_1 y)∧0=0∧n=n∧(n:Int)=(n:Int)∧IntKind.wrap .i64 ((x:Int)+1)=(y_1:Int)∧y=y∧r=r)∧y_1≤List.length y∧List.length y - y_1<List.length y - x else min (sumSz (List.take x y)) (13:Int)=pulsesF y∧y=y∧r=r
theorem vc44 (r : Bool) (n : Nat) (y : List Int) : P44 r n y = vcFun C44 (ann44 r n y) Go.Proofs.Tryd.f64 [⟨.ref .slice, .slice 0 (.int .i64) [] 0 n⟩] [⟨r, false, .int .i64, y⟩] (out44 r n y) := by kernel_rfl

noncomputable def C87 : Ctx := ⟨Go.Proofs.Tryd.prog, D, G44, (fun _ _ => none), fun _ => []⟩
def ann87 (k : Int) : Nat → St → Option Ann := fun _ _ => some ⟨Nat, [0], [], fun x => [(4, .v (.int .i64) ((x : Int) + 1)), (3, .v (.ref .slice) (.slice 1 (.int .i64) [] 0 (2 * x + 1)))], fun x => [(1, some ⟨false, false, .int .i64, numsF x⟩)], fun x => x ≤ k.toNat, fun x => k.toNat - x⟩
def out87 (k : Int) : COut := ⟨[k ≤ 1000000], .v (.ref .slice) (.slice 0 (.int .i64) [] 0 (2 * k.toNat + 1)), [], [⟨false, false, .int .i64, numsF k.toNat⟩]⟩
def sp87 : Spec := fun args ins => match args, ins with
  | [⟨.int .i64, k⟩], [] => some (out87 k)
  | _, _ => none
def G87 := addG G44 78 sp87
def P87 (k : Int) : Prop :=
 ∃ (x:Nat),((k=k∧0=0∧1=2 * x+1∧1=(x:Int)+1∧(0:Int) :: List.replicate (nat_lit 0) (0:Int)=numsF x∧false=false)∧x≤k.toNat)∧∀ (x:Nat),x≤k.toNat→(IntKind.min .i64≤(x:Int)+1∧(x:Int)+1≤IntKind.max .i64∧∀ (y:Int),List.Mem y (numsF x)→IntKind.min
 .i64≤y∧y≤IntKind.max .i64)→bif decide ((x:Int)+1≤k) then ((2:Nat)≤2∧0+((2:Nat) * x+1)=List.length (numsF x)∧((2:Nat) * x+1+List.length (seg (((x:Int)+1) :: List.set (List.replicate (nat_lit 1) (0:Int)) (nat_lit 0) (IntKind.wrap .i64
 (0 - ((x:Int)+1)))) (0:Nat) (2:Nat))) * 8≤70368744177664)∧∃ (y:Nat),(k=k∧0=0∧(2:Nat) * x+1+List.length (seg (((x:Int)+1) :: List.set (List.replicate (nat_lit 1) (0:Int)) (nat_lit 0) (IntKind.wrap .i64 (0 - ((x:Int)+1)))) (0:Nat) (2:Nat))=2
 * y+1∧IntKind.wrap .i64 ((x:Int)+1+1)=(y:Int)+1∧List.append (List.drop (0:Nat) (numsF x)) (seg (((x:Int)+1) :: List.set (List.replicate (nat_lit 1) (0:Int)) (nat_lit 0) (IntKind.wrap .i64 (0 - ((x:Int)+1)))) (0:Nat) (2:Nat))=numsF y∧false=false)∧y≤k.toNat∧k.toNat
 - y<k.toNat - x else 0=0∧(2:Nat) * x+1=2 * k.toNat+1∧numsF x=numsF k.toNat∧false=false
theorem vc87 (k : Int) : P87 k = vcFun C87 (ann87 k) Go.Proofs.Tryd.f78 [⟨.int .i64, k⟩] [] (out87 k) := by kernel_rfl

noncomputable def C88 : Ctx := ⟨Go.Proofs.Tryd.prog, D, G87, (fun _ _ => none), fun _ => []⟩
def ann88 (_r : Bool) (n : Nat) (v : Int) (l : List Int) : Nat → St → Option Ann := fun _ _ => some ⟨Nat, [0, 1, 6, 7], [0], fun i => [(8, .v (.int .i64) (i : Int))], fun _ => [], fun i => i ≤ n ∧ idxF (l.take n) v = idxFrom v ((l.take n).drop i) i, fun i => n - i⟩
def out88 (_r : Bool) (n : Nat) (v : Int) (l : List Int) : COut := ⟨[n ≤ l.length, n ≤ 1000000000], .v (.int .i64) (idxF (l.take n) v), [], []⟩
def sp88 : Spec := fun args ins => match args, ins with
  | [⟨.ref .slice, .slice 0 (.int .i64) [] 0 n⟩, ⟨.int .i64, v⟩], [⟨r, false, .int .i64, l⟩] => some (out88 r n v l)
  | _, _ => none
def G88 := addG G87 125 sp88
def P88 (r : Bool) (n : Nat) (v : Int) (l : List Int) : Prop :=
 ∃ (x:Nat),((0=0∧n=n∧v=v∧0=0∧n=n∧(n:Int)=(n:Int)∧0=(x:Int)∧l=l∧r=r)∧x≤n∧idxF (List.take n l) v=idxFrom v (List.drop x (List.take n l)) x)∧∀ (x:Nat),x≤n∧idxF (List.take n l) v=idxFrom v (List.drop x (List.take n l)) x→IntKind.min .i64≤(x:Int)∧(x:Int)≤IntKind.max
 .i64→bif decide ((x:Int)<(n:Int)) then ((0≤(x:Int)∧(x:Int)<(n:Int))∧0+(x:Int).toNat<List.length l)∧bif decide (v=List.getD l (0+(x:Int).toNat) (0:Int)) then (x:Int)=idxF (List.take n l) v∧l=l∧r=r else ∃ (y:Nat),(0=0∧n=n∧v=v∧0=0∧n=n∧(n:Int)=(n:Int)∧IntKind.wrap
 .i64 ((x:Int)+1)=(y:Int)∧l=l∧r=r)∧(y≤n∧idxF (List.take n l) v=idxFrom v (List.drop y (List.take n l)) y)∧n - y<n - x else (-1:Int)=idxF (List.take n l) v∧l=l∧r=r
theorem vc88 (r : Bool) (n : Nat) (v : Int) (l : List Int) : P88 r n v l = vcFun C88 (ann88 r n v l) Go.Proofs.Tryd.f125 [⟨.ref .slice, .slice 0 (.int .i64) [] 0 n⟩, ⟨.int .i64, v⟩] [⟨r, false, .int .i64, l⟩] (out88 r n v l) := by kernel_rfl

end Go.SL.A

namespace Go.SL.A
open Go Go.SL Go.SL.S

/-! ### Counts -/

theorem cnt_sum (n : Nat) : ∀ k, cnt (n + 1) k = cnt n k + 2 * sumTo (cnt n) k
  | 0 => by simp [cnt, cntRow, sumTo]
  | k + 1 => by
    rw [show cnt (n + 1) (k + 1) = cnt (n + 1) k + cnt n k + cnt n (k + 1) from rfl, cnt_sum n k, sumTo]
    omega

theorem cnt_le : ∀ n k, 0 ≤ cnt n k ∧ cnt n k ≤ ((3 ^ (n + k) : Nat) : Int)
  | 0, 0 => by decide
  | 0, k + 1 => by
    have : cnt 0 (k + 1) = 0 := rfl
    rw [this]
    exact ⟨Int.le_refl _, Int.natCast_nonneg _⟩
  | n + 1, 0 => by
    have := cnt_le n 0
    rw [show cnt (n + 1) 0 = cnt n 0 from rfl]
    have e : (3 : Nat) ^ (n + 1) = 3 * 3 ^ n := by rw [Nat.pow_succ]; omega
    simp only [Nat.add_zero] at *
    omega
  | n + 1, k + 1 => by
    have h1 := cnt_le (n + 1) k
    have h2 := cnt_le n k
    have h3 := cnt_le n (k + 1)
    rw [show cnt (n + 1) (k + 1) = cnt (n + 1) k + cnt n k + cnt n (k + 1) from rfl]
    have e1 : 3 ^ (n + 1 + k) = 3 * 3 ^ (n + k) := by rw [show n + 1 + k = n + k + 1 by omega, Nat.pow_succ]; omega
    have e2 : 3 ^ (n + (k + 1)) = 3 * 3 ^ (n + k) := by rw [show n + (k + 1) = n + k + 1 by omega, Nat.pow_succ]; omega
    have e3 : 3 ^ (n + 1 + (k + 1)) = 9 * 3 ^ (n + k) := by rw [show n + 1 + (k + 1) = n + k + 1 + 1 by omega, Nat.pow_succ, Nat.pow_succ]; omega
    omega

theorem cnt_fits {n k : Nat} (hn : n ≤ 8) (hk : k ≤ 12) : 0 ≤ cnt n k ∧ cnt n k ≤ 3486784401 := by
  have h := cnt_le n k
  have : 3 ^ (n + k) ≤ 3 ^ 20 := Nat.pow_le_pow_right (by decide) (by omega)
  have e : 3 ^ 20 = 3486784401 := by decide
  omega

theorem sumTo_nn {f : Nat → Int} (h : ∀ i, 0 ≤ f i) : ∀ i, 0 ≤ sumTo f i
  | 0 => by simp [sumTo]
  | i + 1 => by have := h i; have := sumTo_nn h i; simp only [sumTo]; omega

theorem sumTo_le {f : Nat → Int} (h : ∀ i, 0 ≤ f i) (i : Nat) : ∀ d, sumTo f i ≤ sumTo f (i + d)
  | 0 => Int.le_refl _
  | d + 1 => by have := h (i + d); have := sumTo_le h i d; rw [← Nat.add_assoc, sumTo]; omega

/-! ### Tables -/

theorem set_map_range {α : Type} (f : Nat → α) (n j : Nat) (v : α) : List.set ((List.range n).map f) j v = (List.range n).map fun i => if i = j then v else f i := by
  apply List.ext_getElem
  · simp
  · intro i h1 h2
    rw [List.getElem_set]
    simp only [List.getElem_map, List.getElem_range]
    by_cases h : j = i
    · subst h; simp
    · rw [if_neg h, if_neg (fun e => h e.symm)]

theorem row_get {g : Nat → Int} {j : Nat} (h : j < 13) : ((List.range 13).map g).getD j 0 = g j := by simp [h]
theorem tab_get {f : Nat → Nat → Int} {m : Nat} {d : List Int} (h : m < 9) : (tab f).getD m d = (List.range 13).map (f m) := by simp [tab, h]
theorem tab_congr {f g : Nat → Nat → Int} (h : ∀ m j, m < 9 → j < 13 → f m j = g m j) : tab f = tab g :=
  List.map_congr_left fun m hm => List.map_congr_left fun j hj => h m j (List.mem_range.1 hm) (List.mem_range.1 hj)
theorem tab_set {f g : Nat → Nat → Int} {m j : Nat} {v : Int} (h : ∀ m' j', m' < 9 → j' < 13 → g m' j' = if m' = m ∧ j' = j then v else f m' j') :
    List.set (tab f) m (List.set ((List.range 13).map (f m)) j v) = tab g := by
  rw [set_map_range]
  show List.set ((List.range 9).map _) m _ = _
  rw [set_map_range]
  refine List.map_congr_left fun m' hm => ?_
  by_cases e : m' = m
  · subst e
    rw [if_pos rfl]
    refine List.map_congr_left fun j' hj => ?_
    rw [h m' j' (List.mem_range.1 hm) (List.mem_range.1 hj)]
    simp
  · rw [if_neg e]
    refine List.map_congr_left fun j' hj => ?_
    rw [h m' j' (List.mem_range.1 hm) (List.mem_range.1 hj), if_neg (fun x => e x.1)]

/-! ### The functions -/

theorem pure85 (n k : Int) : P85 n k := by
  unfold P85 mayF
  rintro _ rfl _ rfl _ rfl
  refine ⟨by simp, ?_⟩
  by_cases h1 : 0 ≤ n <;> by_cases h2 : n ≤ 8 <;> by_cases h3 : 0 ≤ k <;> by_cases h4 : k ≤ 12 <;> simp [h1, h2, h3, h4]

theorem pure86 : P86 := by
  unfold P86
  simp only [Int.toNat_natCast, eq_self, true_and, and_true]
  refine ⟨by decide, 1, ⟨by decide, by decide⟩, fun n hn _ => ?_⟩
  by_cases h8 : (n : Int) ≤ 8
  · have hn8 : n ≤ 8 := by omega
    have w1 : IntKind.i64.wrap ((n : Int) - 1) = ((n - 1 : Nat) : Int) := by rw [w64 (by omega) (by omega)]; omega
    have w2 : IntKind.i64.wrap ((n : Int) + 1) = ((n + 1 : Nat) : Int) := by rw [w64 (by omega) (by omega)]; simp
    simp only [h8, decide_true, cond_true, w1, w2, Int.toNat_natCast]
    refine ⟨0, ⟨⟨rfl, tab_congr fun m j hm hj => by simp [f1, f2]⟩, by omega⟩, fun k hk _ => ?_⟩
    by_cases hk13 : (k : Int) < 13
    · have hk2 : k < 13 := by omega
      have w3 : IntKind.i64.wrap ((k : Int) + 1) = ((k + 1 : Nat) : Int) := by rw [w64 (by omega) (by omega)]; simp
      simp only [hk13, decide_true, cond_true, w3]
      rw [tab_get (f := f2 n k) (m := n) (by omega), tab_get (f := f2 n k) (m := n - 1) (by omega), row_get hk2]
      refine ⟨by omega, 0, ⟨⟨rfl, tab_set fun m' j' hm hj => ?_⟩, by omega⟩, fun i hi _ => ?_⟩
      · unfold f3 f2
        simp only [sumTo]
        by_cases e : m' = n ∧ j' = k
        · obtain ⟨rfl, rfl⟩ := e
          have h1 : m' - 1 < m' ∨ (m' - 1 = m' ∧ j' < j') := by omega
          have h2 : ¬ (m' < m' ∨ (m' = m' ∧ j' < j')) := by omega
          rw [if_neg h2, if_pos h1, if_pos ⟨rfl, rfl⟩, if_pos ⟨rfl, rfl⟩]; omega
        · simp [e]
      · by_cases hik : (i : Int) < (k : Int)
        · have w4 : IntKind.i64.wrap ((i : Int) + 1) = ((i + 1 : Nat) : Int) := by rw [w64 (by omega) (by omega)]; simp
          simp only [hik, decide_true, cond_true, w4]
          rw [tab_get (f := f3 n k i) (m := n) (by omega), tab_get (f := f3 n k i) (m := n - 1) (by omega), row_get hk2, row_get (show i < 13 by omega)]
          have e1 : f3 n k i n k = cnt (n - 1) k + 2 * sumTo (cnt (n - 1)) i := by simp [f3]
          have e2 : f3 n k i (n - 1) i = cnt (n - 1) i := by
            have : n - 1 < n ∨ (n - 1 = n ∧ i < k) := by omega
            simp [f3, this]
          rw [e1, e2]
          have hc1 := cnt_fits (n := n - 1) (k := i) (by omega) (by omega)
          have hc2 := cnt_fits (n := n) (k := k) (by omega) (by omega)
          have hs := cnt_sum (n - 1) k
          rw [show n - 1 + 1 = n by omega] at hs
          have hs2 := sumTo_le (f := cnt (n - 1)) (fun i => (cnt_le (n - 1) i).1) (i + 1) (k - (i + 1))
          rw [show i + 1 + (k - (i + 1)) = k by omega, sumTo] at hs2
          have hs3 := sumTo_nn (f := cnt (n - 1)) (fun i => (cnt_le (n - 1) i).1) i
          have hc3 := cnt_le (n - 1) k
          rw [w64 (n := 2 * cnt (n - 1) i) (by omega) (by omega), w64 (by omega) (by omega)]
          refine ⟨by omega, i + 1, ⟨rfl, tab_set fun m' j' hm hj => ?_⟩, by omega, by omega⟩
          unfold f3
          simp only [sumTo]
          by_cases e : m' = n ∧ j' = k
          · obtain ⟨rfl, rfl⟩ := e
            simp; omega
          · simp [e]
        · have : i = k := by omega
          subst this
          simp only [hik, decide_false, cond_false]
          refine ⟨i + 1, ⟨rfl, tab_congr fun m j hm hj => ?_⟩, by omega, by omega⟩
          have hs := cnt_sum (n - 1) i
          rw [show n - 1 + 1 = n by omega] at hs
          unfold f3 f2
          by_cases e : m < n ∨ (m = n ∧ j < i)
          · rw [if_pos e, if_pos (by omega)]
          · rw [if_neg e]
            by_cases e2 : m = n ∧ j = i
            · obtain ⟨rfl, rfl⟩ := e2
              rw [if_pos ⟨rfl, rfl⟩, if_pos (by omega), hs]
            · rw [if_neg e2, if_neg (by omega)]
    · have : k = 13 := by omega
      subst this
      simp only [hk13, decide_false, cond_false]
      refine ⟨n + 1, ⟨rfl, tab_congr fun m j hm hj => ?_⟩, by omega, by omega⟩
      unfold f2 f1
      by_cases e : m < n + 1
      · rw [if_pos e, if_pos (by omega)]
      · rw [if_neg e, if_neg (by omega)]
  · have : n = 9 := by omega
    subst this
    simp only [h8, decide_false, cond_false]
    exact tab_congr fun m j hm hj => by simp [f1, hm]

theorem pure41 (n k : Int) : P41 n k := by
  unfold P41 countF
  cases hm : mayF n k with
  | false => simp
  | true =>
    have h : 0 ≤ n ∧ n ≤ 8 ∧ 0 ≤ k ∧ k ≤ 12 := by simpa [mayF] using hm
    simp only [Bool.not_true, cond_false, if_true]
    refine ⟨by omega, ?_⟩
    unfold tabF
    rw [tab_get (by omega), row_get (by omega)]

theorem pure89 (x : Int) : P89 x := by
  unfold P89 sz13
  rintro _ rfl
  refine ⟨by simp, ?_⟩
  by_cases h1 : x < -12
  · simp [h1]
  · by_cases h2 : 12 < x
    · simp [h1, h2]
    · have w : IntKind.i64.wrap (0 - x) = -x := by rw [w64 (by omega) (by omega)]; omega
      have h3 : ¬ (x < -12 ∨ 12 < x) := by omega
      rw [if_neg h3]
      simp only [h1, h2, decide_false, cond_false, w]

theorem sz13_le (x : Int) : 0 ≤ sz13 x ∧ sz13 x ≤ 13 := by unfold sz13; split <;> omega

theorem sumSz_append : ∀ a b : List Int, sumSz (a ++ b) = sumSz a + sumSz b
  | [], b => by simp [sumSz]
  | x :: a, b => by simp only [List.cons_append, sumSz, sumSz_append a b]; omega

theorem sumSz_le : ∀ a : List Int, 0 ≤ sumSz a ∧ sumSz a ≤ 13 * (a.length : Int)
  | [] => by simp [sumSz]
  | x :: a => by have := sumSz_le a; have := sz13_le x; simp only [sumSz, List.length_cons]; omega


theorem pure44 (r : Bool) (n : Nat) (y : List Int) (hn : n = y.length) : P44 r n y := by
  subst hn
  unfold P44 pulsesF
  by_cases h8 : (8 : Int) < (y.length : Int)
  · have : 8 < y.length := by omega
    rw [if_pos this]
    simp only [h8, decide_true, cond_true, and_self]
  · have h9 : ¬ 8 < y.length := by omega
    simp only [h8, h9, decide_false, cond_false, if_false, Int.toNat_natCast, Nat.zero_add, eq_self, true_and, and_true]
    refine ⟨0, ⟨by simp [sumSz], by omega⟩, fun k hk _ => ?_⟩
    by_cases h : (k : Int) < (y.length : Int)
    · have hk2 : k < y.length := by omega
      have w : IntKind.i64.wrap ((k : Int) + 1) = ((k + 1 : Nat) : Int) := by rw [w64 (by omega) (by omega)]; simp
      simp only [h, decide_true, cond_true]
      have h1 := sumSz_le (y.take k)
      have h2 := sz13_le (y.getD k 0)
      rw [List.length_take] at h1
      refine ⟨by simp [hk2], k + 1, ⟨?_, w⟩, by omega, by omega⟩
      rw [take_snoc' 0 hk2, sumSz_append, w64 (by omega) (by omega)]
      simp [sumSz]
    · have : k = y.length := by omega
      subst this
      simp only [h, decide_false, cond_false, List.take_length]

theorem numsF_len : ∀ k, (numsF k).length = 2 * k + 1
  | 0 => rfl
  | k + 1 => by simp [numsF, numsF_len k]; omega

theorem pure87 (k : Int) (hk : k ≤ 1000000) : P87 k := by
  unfold P87
  simp only [Nat.zero_add, eq_self, true_and, and_true]
  refine ⟨0, ⟨⟨by simp, by simp, rfl⟩, by omega⟩, fun x hx _ => ?_⟩
  by_cases h : (x : Int) + 1 ≤ k
  · simp only [h, decide_true, cond_true]
    have w1 : IntKind.i64.wrap ((x : Int) + 1 + 1) = ((x + 1 : Nat) : Int) + 1 := by rw [w64 (by omega) (by omega)]; simp
    have w2 : IntKind.i64.wrap (0 - ((x : Int) + 1)) = -((x + 1 : Nat) : Int) := by rw [w64 (by omega) (by omega)]; omega
    have es : seg (((x : Int) + 1) :: List.set (List.replicate 1 (0 : Int)) 0 (IntKind.i64.wrap (0 - ((x : Int) + 1)))) 0 2 = [((x + 1 : Nat) : Int), -((x + 1 : Nat) : Int)] := by
      rw [w2]; simp [seg]
    rw [es]
    refine ⟨⟨by omega, by rw [numsF_len], by simp; omega⟩, x + 1, ⟨by simp; omega, w1, rfl⟩, by omega, by omega⟩
  · have : x = k.toNat := by omega
    subst this
    simp only [h, decide_false, cond_false, and_self]

theorem pure88 (r : Bool) (n : Nat) (v : Int) (l : List Int) (hn : n ≤ l.length) (h1 : n ≤ 1000000000) : P88 r n v l := by
  unfold P88
  simp only [Int.toNat_natCast, Nat.zero_add, eq_self, true_and, and_true]
  refine ⟨0, ⟨rfl, by omega, by simp [idxF]⟩, fun i hi _ => ?_⟩
  obtain ⟨hi, hix⟩ := hi
  by_cases h : (i : Int) < (n : Int)
  · have hil : i < l.length := by omega
    have w : IntKind.i64.wrap ((i : Int) + 1) = ((i + 1 : Nat) : Int) := by rw [w64 (by omega) (by omega)]; simp
    have ed : (l.take n).drop i = l.getD i 0 :: (l.take n).drop (i + 1) := by
      rw [List.drop_eq_getElem_cons (by simp; omega)]; simp [hil]
    rw [ed, idxFrom] at hix
    simp only [h, decide_true, cond_true]
    refine ⟨by simp [hil], ?_⟩
    by_cases hv : v = l.getD i 0
    · rw [if_pos hv] at hix
      simp only [hv, decide_true, cond_true]
      rw [← hv, hix]
    · rw [if_neg hv] at hix
      simp only [hv, decide_false, cond_false]
      exact ⟨i + 1, w, ⟨by omega, hix⟩, by omega⟩
  · have : i = n := by omega
    subst this
    simp only [h, decide_false, cond_false]
    rw [hix, List.drop_eq_nil_of_le (by simp; omega)]
    rfl

end Go.SL.A

/- Functions do what they are held to do. -/
namespace Go.SL.A
open Go Go.SL Go.SL.S
theorem snd85 : Sound Go.Proofs.Tryd.prog G85 := sndd20.add ⟨_, Go.Proofs.Tryd.func76, by kernel_rfl, by kernel_rfl⟩ (by
  intro args ins out h hp
  unfold sp85 at h
  split at h
  · rename_i n k
    cases h
    exact vcFun_ok (C := C85) good sndd20 Meth.none mix Go.Proofs.Tryd.func76 (ann85 n k) (fun hw => by rw [← vc85 n k]; exact pure85 n k)
  · cases h)

theorem snd86 : Sound Go.Proofs.Tryd.prog G86 := snd85.add ⟨_, Go.Proofs.Tryd.func77, by kernel_rfl, by kernel_rfl⟩ (by
  intro args ins out h hp
  unfold sp86 at h
  split at h
  · cases h
    exact vcFun_ok (C := C86) good snd85 Meth.none mix Go.Proofs.Tryd.func77 (ann86 ) (fun hw => by rw [← vc86 ]; exact pure86)
  · cases h)

theorem snd41 : Sound Go.Proofs.Tryd.prog G41 := snd86.add ⟨_, Go.Proofs.Tryd.func39, by kernel_rfl, by kernel_rfl⟩ (by
  intro args ins out h hp
  unfold sp41 at h
  split at h
  · rename_i n k
    cases h
    exact vcFun_ok (C := C41) good snd86 Meth.none mix Go.Proofs.Tryd.func39 (ann41 n k) (fun hw => by rw [← vc41 n k]; exact pure41 n k)
  · cases h)

theorem snd89 : Sound Go.Proofs.Tryd.prog G89 := snd41.add ⟨_, Go.Proofs.Tryd.func81, by kernel_rfl, by kernel_rfl⟩ (by
  intro args ins out h hp
  unfold sp89 at h
  split at h
  · rename_i x
    cases h
    exact vcFun_ok (C := C89) good snd41 Meth.none mix Go.Proofs.Tryd.func81 (ann89 x) (fun hw => by rw [← vc89 x]; exact pure89 x)
  · cases h)

theorem snd44 : Sound Go.Proofs.Tryd.prog G44 := snd89.add ⟨_, Go.Proofs.Tryd.func64, by kernel_rfl, by kernel_rfl⟩ (by
  intro args ins out h hp
  unfold sp44 at h
  split at h
  · rename_i n r y
    cases h
    exact vcFun_ok (C := C44) good snd89 Meth.none mix Go.Proofs.Tryd.func64 (ann44 r n y) (fun hw => by rw [← vc44 r n y]; exact pure44 r n y hp)
  · cases h)

theorem snd87 : Sound Go.Proofs.Tryd.prog G87 := snd44.add ⟨_, Go.Proofs.Tryd.func78, by kernel_rfl, by kernel_rfl⟩ (by
  intro args ins out h hp
  unfold sp87 at h
  split at h
  · rename_i k
    cases h
    exact vcFun_ok (C := C87) good snd44 Meth.none mix Go.Proofs.Tryd.func78 (ann87 k) (fun hw => by rw [← vc87 k]; exact pure87 k hp)
  · cases h)

theorem snd88 : Sound Go.Proofs.Tryd.prog G88 := snd87.add ⟨_, Go.Proofs.Tryd.func125, by kernel_rfl, by kernel_rfl⟩ (by
  intro args ins out h hp
  unfold sp88 at h
  split at h
  · rename_i n v r l
    cases h
    exact vcFun_ok (C := C88) good snd87 Meth.none mix Go.Proofs.Tryd.func125 (ann88 r n v l) (fun hw => by rw [← vc88 r n v l]; exact pure88 r n v l hp.1 hp.2)
  · cases h)

end Go.SL.A

/- Plain functions of pvq, more. -/
namespace Go.SL.S
open Go

def sumBy (n K : Nat) : List Int → Int
  | [] => 0
  | z :: l => cnt n (K - (sz13 z).toNat) + sumBy n K l

/-- A vector's number. -/
def numF : List Int → Int
  | [] => 0
  | x :: ys => sumBy ys.length (sumSz (x :: ys)).toNat ((numsF (sumSz (x :: ys)).toNat).take (idxF (numsF (sumSz (x :: ys)).toNat) x).toNat) + numF ys
def indexF (y : List Int) : Int × Int := if 12 < pulsesF y then (0, 7) else (numF y, 0)

def pickF (n K : Nat) : List Int → Int → Nat → Int × Int
  | [], i, _ => (-1, i)
  | z :: l, i, j => if i < cnt n (K - (sz13 z).toNat) then ((j : Int), i) else pickF n K l (i - cnt n (K - (sz13 z).toNat)) (j + 1)

/-- How many pulses are left, the number that is left, and the numbers so far. -/
def vst (n : Nat) (k i : Int) : Nat → Int × Int × List Int
  | 0 => (k, i, [])
  | a + 1 =>
    let s := vst n k i a
    let p := pickF (n - a - 1) s.1.toNat (numsF s.1.toNat) s.2.1 0
    let z := (numsF s.1.toNat).getD p.1.toNat 0
    (s.1 - sz13 z, p.2, s.2.2 ++ [z])
def vecF (n k i : Int) : List Int := if mayF n k = true ∧ 0 ≤ i ∧ i < countF n k then (vst n.toNat k i n.toNat).2.2 else []
def vecE (n k i : Int) : Int := if mayF n k then (if 0 ≤ i ∧ i < countF n k then 0 else 7) else 1

def bitLen (m : Nat) : Nat := if m = 0 then 0 else m.log2 + 1
def bitsF (k : Int) : Int := (bitLen (countF 4 k - 1).toNat : Nat)
end Go.SL.S

/- Functions and what they are held to do: bound to their code. -/
namespace Go.SL.A
open Go Go.SL Go.SL.S
set_option maxRecDepth 100000
noncomputable def C91 : Ctx := ⟨Go.Proofs.Tryd.prog, D, G88, (fun _ _ => none), fun _ => []⟩
def ann91 (_x _n _a _k _i : Int) (_t : List (List Int)) : Nat → St → Option Ann := fun _ _ => none
def out91 (x n a k i : Int) (t : List (List Int)) : COut := ⟨[t = tabF, 0 ≤ n - a - 1 ∧ n ≤ 8 ∧ 0 ≤ a ∧ 0 ≤ k - sz13 x ∧ k ≤ 12 ∧ 0 ≤ i], .v .bool (decide (i < cnt (n - a - 1).toNat (k.toNat - (sz13 x).toNat))), [(4, some ⟨false, true, .int .i64, [if i < cnt (n - a - 1).toNat (k.toNat - (sz13 x).toNat) then i else i - cnt (n - a - 1).toNat (k.toNat - (sz13 x).toNat)]⟩)], []⟩
def sp91 : Spec := fun args ins => match args, ins with
  | [⟨.int .i64, x⟩, ⟨.ref .ptr, .ptr 0 (.ref .ptr) [0]⟩, ⟨.ref .ptr, .ptr 1 (.int .i64) [0]⟩, ⟨.ref .ptr, .ptr 2 (.int .i64) [0]⟩, ⟨.ref .ptr, .ptr 3 (.int .i64) [0]⟩, ⟨.ref .ptr, .ptr 4 (.int .i64) [0]⟩], [⟨false, true, .ref .ptr, [.ptr 5 (.arr 9 (.arr 13 (.int .i64))) [0]]⟩, ⟨false, true, .int .i64, [n]⟩, ⟨false, true, .int .i64, [a]⟩, ⟨false, true, .int .i64, [k]⟩, ⟨false, true, .int .i64, [i]⟩, ⟨false, true, .arr 9 (.arr 13 (.int .i64)), [t]⟩] => some (out91 x n a k i t)
  | _, _ => none
def G91 := addG G88 80 sp91
def P91 (x n a k i : Int) (t : List (List Int)) : Prop :=
 ((0≤IntKind.wrap .i64 (IntKind.wrap .i64 (n - a) - 1)∧IntKind.wrap .i64 (IntKind.wrap .i64 (n - a) - 1)<(↑ (9:Nat):Int))∧(0≤IntKind.wrap .i64 (k - sz13 x)∧IntKind.wrap .i64 (k - sz13 x)<(↑ (13:Nat):Int))∧(IntKind.wrap .i64 (IntKind.wrap
 .i64 (n - a) - 1)).toNat<9∧(IntKind.wrap .i64 (k - sz13 x)).toNat<13)∧bif decide (i<List.getD (List.getD t (IntKind.wrap .i64 (IntKind.wrap .i64 (n - a) - 1)).toNat (List.replicate 13 (0:Int))) (IntKind.wrap .i64 (k - sz13 x)).toNat
 (0:Int)) then true=decide (i<cnt (n - a - 1).toNat (k.toNat - (sz13 x).toNat))∧0=0∧false=false∧n=n∧false=false∧a=a∧false=false∧k=k∧false=false∧(i=if i<cnt (n - a - 1).toNat (k.toNat - (sz13 x).toNat) then i else i - cnt (n - a - 1).toNat
 (k.toNat - (sz13 x).toNat))∧false=false∧t=t∧false=false else false=decide (i<cnt (n - a - 1).toNat (k.toNat - (sz13 x).toNat))∧0=0∧false=false∧n=n∧false=false∧a=a∧false=false∧k=k∧false=false∧(IntKind.wrap .i64 (i - List.getD (List.getD
 t (IntKind.wrap .i64 (IntKind.wrap .i64 (n - a) - 1)).toNat (List.replicate 13 (0:Int))) (IntKind.wrap .i64 (k - sz13 x)).toNat (0:Int))=if i<cnt (n - a - 1).toNat (k.toNat - (sz13 x).toNat) then i else i - cnt (n - a - 1).toNat (k.toNat
 - (sz13 x).toNat))∧false=false∧t=t∧false=false
theorem vc91 (x n a k i : Int) (t : List (List Int)) : P91 x n a k i t = vcFun C91 (ann91 x n a k i t) Go.Proofs.Tryd.f80 [⟨.int .i64, x⟩, ⟨.ref .ptr, .ptr 0 (.ref .ptr) [0]⟩, ⟨.ref .ptr, .ptr 1 (.int .i64) [0]⟩, ⟨.ref .ptr, .ptr 2 (.int .i64) [0]⟩, ⟨.ref .ptr, .ptr 3 (.int .i64) [0]⟩, ⟨.ref .ptr, .ptr 4 (.int .i64) [0]⟩] [⟨false, true, .ref .ptr, [.ptr 5 (.arr 9 (.arr 13 (.int .i64))) [0]]⟩, ⟨false, true, .int .i64, [n]⟩, ⟨false, true, .int .i64, [a]⟩, ⟨false, true, .int .i64, [k]⟩, ⟨false, true, .int .i64, [i]⟩, ⟨false, true, .arr 9 (.arr 13 (.int .i64)), [t]⟩] (out91 x n a k i t) := by kernel_rfl

noncomputable def C90 : Ctx := ⟨Go.Proofs.Tryd.prog, D, G91, (fun _ _ => none), fun _ => []⟩
def ann90 (_r : Bool) (_m : Nat) (n a k i : Int) (l : List Int) (_t : List (List Int)) : Nat → St → Option Ann := fun _ _ => some ⟨Nat, [0, 1, 6, 7], [0, 1, 2, 3, 4, 6], fun j => [(8, .v (.int .i64) (j : Int))], fun j => [(5, some ⟨false, true, .int .i64, [i - sumBy (n - a - 1).toNat k.toNat (l.take j)]⟩)], fun j => j ≤ l.length ∧ pickF (n - a - 1).toNat k.toNat l i 0 = pickF (n - a - 1).toNat k.toNat (l.drop j) (i - sumBy (n - a - 1).toNat k.toNat (l.take j)) j ∧ 0 ≤ i - sumBy (n - a - 1).toNat k.toNat (l.take j), fun j => l.length - j⟩
def out90 (_r : Bool) (m : Nat) (n a k i : Int) (l : List Int) (t : List (List Int)) : COut := ⟨[t = tabF, m = l.length ∧ m ≤ 1000000, 0 ≤ n - a - 1 ∧ n ≤ 8 ∧ 0 ≤ a ∧ (∀ z ∈ l, 0 ≤ k - sz13 z) ∧ k ≤ 12 ∧ 0 ≤ i], .v (.int .i64) (pickF (n - a - 1).toNat k.toNat l i 0).1, [(5, some ⟨false, true, .int .i64, [(pickF (n - a - 1).toNat k.toNat l i 0).2]⟩)], []⟩
def sp90 : Spec := fun args ins => match args, ins with
  | [⟨.ref .slice, .slice 0 (.int .i64) [] 0 m⟩, ⟨.ref .func, .func (.func 80) [] [.ptr 1 (.ref .ptr) [0], .ptr 2 (.int .i64) [0], .ptr 3 (.int .i64) [0], .ptr 4 (.int .i64) [0], .ptr 5 (.int .i64) [0]]⟩], [⟨r, false, .int .i64, l⟩, ⟨false, true, .ref .ptr, [.ptr 6 (.arr 9 (.arr 13 (.int .i64))) [0]]⟩, ⟨false, true, .int .i64, [n]⟩, ⟨false, true, .int .i64, [a]⟩, ⟨false, true, .int .i64, [k]⟩, ⟨false, true, .int .i64, [i]⟩, ⟨false, true, .arr 9 (.arr 13 (.int .i64)), [t]⟩] => some (out90 r m n a k i l t)
  | _, _ => none
def G90 := addG G91 79 sp90
def P90 (r : Bool) (m : Nat) (n a k i : Int) (l : List Int) (t : List (List Int)) : Prop :=
 ∃ (x:Nat),((0=0∧m=m∧0=0∧0=0∧0=0∧0=0∧0=0∧0=0∧m=m∧(m:Int)=(m:Int)∧0=(x:Int)∧l=l∧r=r∧0=0∧false=false∧n=n∧false=false∧a=a∧false=false∧k=k∧false=false∧i=i - sumBy (n - a - 1).toNat k.toNat (List.take x l)∧false=false∧t=t∧false=false)∧x≤List.length
 l∧pickF (n - a - 1).toNat k.toNat l i (0:Nat)=pickF (n - a - 1).toNat k.toNat (List.drop x l) (i - sumBy (n - a - 1).toNat k.toNat (List.take x l)) x∧0≤i - sumBy (n - a - 1).toNat k.toNat (List.take x l))∧∀ (x:Nat),x≤List.length l∧pickF
 (n - a - 1).toNat k.toNat l i (0:Nat)=pickF (n - a - 1).toNat k.toNat (List.drop x l) (i - sumBy (n - a - 1).toNat k.toNat (List.take x l)) x∧0≤i - sumBy (n - a - 1).toNat k.toNat (List.take x l)→(IntKind.min .i64≤(x:Int)∧(x:Int)≤IntKind.max
 .i64∧∀ (y:Int),List.Mem y [i - sumBy (n - a - 1).toNat k.toNat (List.take x l)]→IntKind.min .i64≤y∧y≤IntKind.max .i64)→bif decide ((x:Int)<(m:Int)) then ((0≤(x:Int)∧(x:Int)<(m:Int))∧0+(x:Int).toNat<List.length l∧t=tabF∧0≤n - a - 1∧n≤8∧0≤a∧0≤k
 - sz13 (List.getD l (0+(x:Int).toNat) (0:Int))∧k≤12∧0≤i - sumBy (n - a - 1).toNat k.toNat (List.take x l))∧bif decide (i - sumBy (n - a - 1).toNat k.toNat (List.take x l)<cnt (n - a - 1).toNat (k.toNat - (sz13 (List.getD l (0+(x:Int).toNat)
 (0:Int))).toNat)) then (x:Int)=(pickF (n - a - 1).toNat k.toNat l i (0:Nat)).1∧l=l∧r=r∧0=0∧false=false∧n=n∧false=false∧a=a∧false=false∧k=k∧false=false∧(if i - sumBy (n - a - 1).toNat k.toNat (List.take x l)<cnt (n - a - 1).toNat (k.toNat
 - (sz13 (List.getD l (0+(x:Int).toNat) (0:Int))).toNat) then i - sumBy (n - a - 1).toNat k.toNat (List.take x l) else i - sumBy (n - a - 1).toNat k.toNat (List.take x l) - cnt (n - a - 1).toNat (k.toNat - (sz13 (List.getD l (0+(x:Int).toNat)
 (0:Int))).toNat))=(pickF (n - a - 1).toNat k.toNat l i (0:Nat)).2∧false=false∧t=t∧false=false else ∃ (y:Nat),(0=0∧m=m∧0=0∧0=0∧0=0∧0=0∧0=0∧0=0∧m=m∧(m:Int)=(m:Int)∧IntKind.wrap .i64 ((x:Int)+1)=(y:Int)∧l=l∧r=r∧0=0∧false=false∧n=n∧false=false∧a=a∧false=false∧k=k∧false=false∧(if
 i - sumBy (n - a - 1).toNat k.toNat (List.take x l)<cnt (n - a - 1).toNat (k.toNat - (sz13 (List.getD l (0+(x:Int).toNat) (0:Int))).toNat) then i - sumBy (n - a - 1).toNat k.toNat (List.take x l) else i - sumBy (n - a - 1).toNat k.toNat
 (List.take x l) - cnt (n - a - 1).toNat (k.toNat - (sz13 (List.getD l (0+(x:Int).toNat) (0:Int))).toNat))=i - sumBy (n - a - 1).toNat k.toNat (List.take y l)∧false=false∧t=t∧false=false)∧(y≤List.length l∧pickF (n - a - 1).toNat k.toNat
 l i (0:Nat)=pickF (n - a - 1).toNat k.toNat (List.drop y l) (i - sumBy (n - a - 1).toNat k.toNat (List.take y l)) y∧0≤i - sumBy (n - a - 1).toNat k.toNat (List.take y l))∧List.length l - y<List.length l - x else (-1:Int)=(pickF (n -
 a - 1).toNat k.toNat l i (0:Nat)).1∧l=l∧r=r∧0=0∧false=false∧n=n∧false=false∧a=a∧false=false∧k=k∧false=false∧i - sumBy (n - a - 1).toNat k.toNat (List.take x l)=(pickF (n - a - 1).toNat k.toNat l i (0:Nat)).2∧false=false∧t=t∧false=false
theorem vc90 (r : Bool) (m : Nat) (n a k i : Int) (l : List Int) (t : List (List Int)) : P90 r m n a k i l t = vcFun C90 (ann90 r m n a k i l t) Go.Proofs.Tryd.f79 [⟨.ref .slice, .slice 0 (.int .i64) [] 0 m⟩, ⟨.ref .func, .func (.func 80) [] [.ptr 1 (.ref .ptr) [0], .ptr 2 (.int .i64) [0], .ptr 3 (.int .i64) [0], .ptr 4 (.int .i64) [0], .ptr 5 (.int .i64) [0]]⟩] [⟨r, false, .int .i64, l⟩, ⟨false, true, .ref .ptr, [.ptr 6 (.arr 9 (.arr 13 (.int .i64))) [0]]⟩, ⟨false, true, .int .i64, [n]⟩, ⟨false, true, .int .i64, [a]⟩, ⟨false, true, .int .i64, [k]⟩, ⟨false, true, .int .i64, [i]⟩, ⟨false, true, .arr 9 (.arr 13 (.int .i64)), [t]⟩] (out90 r m n a k i l t) := by kernel_rfl

end Go.SL.A

namespace Go.SL.A
open Go Go.SL Go.SL.S

theorem tabF_get {a b : Int} (h1 : 0 ≤ a) (h2 : a ≤ 8) (h3 : 0 ≤ b) (h4 : b ≤ 12) : (tabF.getD a.toNat (List.replicate 13 0)).getD b.toNat 0 = cnt a.toNat b.toNat := by
  unfold tabF; rw [tab_get (by omega), row_get (by omega)]

theorem pure91 (x n a k i : Int) (t : List (List Int)) (ht : t = tabF) (hp : 0 ≤ n - a - 1 ∧ n ≤ 8 ∧ 0 ≤ a ∧ 0 ≤ k - sz13 x ∧ k ≤ 12 ∧ 0 ≤ i) (hi : i ≤ 9223372036854775807) : P91 x n a k i t := by
  subst ht
  obtain ⟨h1, h2, h3, h4, h5, h6⟩ := hp
  have hz := sz13_le x
  unfold P91
  have w1 : IntKind.i64.wrap (n - a) = n - a := w64 (by omega) (by omega)
  have w2 : IntKind.i64.wrap (n - a - 1) = n - a - 1 := w64 (by omega) (by omega)
  have w3 : IntKind.i64.wrap (k - sz13 x) = k - sz13 x := w64 (by omega) (by omega)
  have e : k.toNat - (sz13 x).toNat = (k - sz13 x).toNat := by omega
  rw [w1, w2, w3, e, tabF_get h1 (by omega) h4 (by omega)]
  have hc := cnt_fits (n := (n - a - 1).toNat) (k := (k - sz13 x).toNat) (by omega) (by omega)
  generalize cnt (n - a - 1).toNat (k - sz13 x).toNat = c at *
  refine ⟨by omega, ?_⟩
  by_cases h : i < c
  · simp only [h, decide_true, cond_true, if_true, and_self]
  · have w4 : IntKind.i64.wrap (i - c) = i - c := w64 (by omega) (by omega)
    simp only [h, decide_false, cond_false, if_false, and_self, w4]

theorem pure90 (r : Bool) (m : Nat) (n a k i : Int) (l : List Int) (t : List (List Int)) (ht : t = tabF) (hm : m = l.length ∧ m ≤ 1000000) (hp : 0 ≤ n - a - 1 ∧ n ≤ 8 ∧ 0 ≤ a ∧ (∀ z ∈ l, 0 ≤ k - sz13 z) ∧ k ≤ 12 ∧ 0 ≤ i) : P90 r m n a k i l t := by
  subst ht
  obtain ⟨rfl, hm⟩ := hm
  obtain ⟨h1, h2, h3, h4, h5, h6⟩ := hp
  unfold P90
  simp only [eq_self, true_and, and_true, Int.toNat_natCast, Nat.zero_add]
  refine ⟨0, ⟨by simp [sumBy], by simp [sumBy, h6]⟩, fun j hj _ => ?_⟩
  obtain ⟨hj, hpk, hnn⟩ := hj
  by_cases h : (j : Int) < (l.length : Int)
  · have hjl : j < l.length := by omega
    have w : IntKind.i64.wrap ((j : Int) + 1) = ((j + 1 : Nat) : Int) := by rw [w64 (by omega) (by omega)]; simp
    have hz := h4 _ (getD_mem (d := 0) hjl)
    have ed : l.drop j = l.getD j 0 :: l.drop (j + 1) := by
      rw [List.drop_eq_getElem_cons hjl]; simp [hjl]
    have es : sumBy (n - a - 1).toNat k.toNat (l.take (j + 1)) = sumBy (n - a - 1).toNat k.toNat (l.take j) + cnt (n - a - 1).toNat (k.toNat - (sz13 (l.getD j 0)).toNat) := by
      rw [take_snoc' 0 hjl]
      have : ∀ (p : List Int) (z : Int) (N K : Nat), sumBy N K (p ++ [z]) = sumBy N K p + cnt N (K - (sz13 z).toNat) := by
        intro p z N K
        induction p with
        | nil => simp [sumBy]
        | cons x p ih => simp only [List.cons_append, sumBy, ih]; omega
      exact this _ _ _ _
    rw [ed, pickF] at hpk
    simp only [h, decide_true, cond_true]
    generalize sumBy (n - a - 1).toNat k.toNat (l.take j) = s at *
    generalize cnt (n - a - 1).toNat (k.toNat - (sz13 (l.getD j 0)).toNat) = c at *
    refine ⟨⟨by simp, hjl, h1, h2, h3, hz, h5, hnn⟩, ?_⟩
    by_cases hc : i - s < c
    · rw [if_pos hc] at hpk
      simp only [hc, decide_true, cond_true, if_true, hpk, and_self]
    · rw [if_neg hc] at hpk
      simp only [hc, decide_false, cond_false, if_false]
      refine ⟨j + 1, ⟨w, by rw [es]; omega⟩, ⟨by omega, ?_, by rw [es]; omega⟩, by omega⟩
      rw [hpk, es]; congr 1; omega
  · have : j = l.length := by omega
    subst this
    simp only [h, decide_false, cond_false]
    rw [hpk, List.drop_length]
    simp [pickF]

theorem hw91 {x n a k i : Int} {t : List (List Int)} (hw : allP (List.flatMap (fun a : AV => a.t.wf a.x) [⟨.int .i64, x⟩, ⟨.ref .ptr, .ptr 0 (.ref .ptr) [0]⟩, ⟨.ref .ptr, .ptr 1 (.int .i64) [0]⟩, ⟨.ref .ptr, .ptr 2 (.int .i64) [0]⟩, ⟨.ref .ptr, .ptr 3 (.int .i64) [0]⟩, ⟨.ref .ptr, .ptr 4 (.int .i64) [0]⟩] ++ List.flatMap Blk.wf [⟨false, true, .ref .ptr, [.ptr 5 (.arr 9 (.arr 13 (.int .i64))) [0]]⟩, ⟨false, true, .int .i64, [n]⟩, ⟨false, true, .int .i64, [a]⟩, ⟨false, true, .int .i64, [k]⟩, ⟨false, true, .int .i64, [i]⟩, ⟨false, true, .arr 9 (.arr 13 (.int .i64)), [t]⟩])) : i ≤ 9223372036854775807 := by
  simp only [List.flatMap_cons, List.flatMap_nil, Ty.wf, Blk.wf, List.append_nil, List.cons_append, List.nil_append, allP] at hw
  exact (hw.2.2.2.2.2.2.1 i (by simp)).2

end Go.SL.A

/- Functions do what they are held to do. -/
namespace Go.SL.A
open Go Go.SL Go.SL.S
theorem snd91 : Sound Go.Proofs.Tryd.prog G91 := snd88.add ⟨_, Go.Proofs.Tryd.func80, by kernel_rfl, by kernel_rfl⟩ (by
  intro args ins out h hp
  unfold sp91 at h
  split at h
  · rename_i x n a k i t
    cases h
    exact vcFun_ok (C := C91) good snd88 Meth.none mix Go.Proofs.Tryd.func80 (ann91 x n a k i t) (fun hw => by rw [← vc91 x n a k i t]; exact pure91 x n a k i t hp.1 hp.2 (hw91 hw))
  · cases h)

theorem snd90 : Sound Go.Proofs.Tryd.prog G90 := snd91.add ⟨_, Go.Proofs.Tryd.func79, by kernel_rfl, by kernel_rfl⟩ (by
  intro args ins out h hp
  unfold sp90 at h
  split at h
  · rename_i m r l n a k i t
    cases h
    exact vcFun_ok (C := C90) good snd91 Meth.none mix Go.Proofs.Tryd.func79 (ann90 r m n a k i l t) (fun hw => by rw [← vc90 r m n a k i l t]; exact pure90 r m n a k i l t hp.1 hp.2.1 hp.2.2)
  · cases h)

end Go.SL.A

/- Functions and what they are held to do: bound to their code. -/
namespace Go.SL.A
open Go Go.SL Go.SL.S
set_option maxRecDepth 100000
noncomputable def C45 : Ctx := ⟨Go.Proofs.Tryd.prog, D, G90, (fun _ _ => none), fun _ => []⟩
def ann45 (n k i : Int) : Nat → St → Option Ann := fun _ _ => some ⟨Nat, [3, 4, 5, 8, 29], [0, 3, 4], fun a => [(30, .v (.int .i64) (a : Int)), (9, .v (.ref .slice) (.slice 5 (.int .i64) [] 0 a))], fun a => [(1, some ⟨false, true, .int .i64, [(vst n.toNat k i a).1]⟩), (2, some ⟨false, true, .int .i64, [(vst n.toNat k i a).2.1]⟩), (5, some ⟨false, false, .int .i64, (vst n.toNat k i a).2.2⟩)], fun a => a ≤ n.toNat, fun a => n.toNat - a⟩
def out45 (n k i : Int) : COut := ⟨[], .tup [⟨.ref .slice, .slice 0 (.int .i64) [] 0 (vecF n k i).length⟩, ⟨.int .i64, vecE n k i⟩], [], [⟨false, false, .int .i64, vecF n k i⟩]⟩
def sp45 : Spec := fun args ins => match args, ins with
  | [⟨.int .i64, n⟩, ⟨.int .i64, k⟩, ⟨.int .i64, i⟩], [] => some (out45 n k i)
  | _, _ => none
def G45 := addG G90 40 sp45
def P45 (n k i : Int) : Prop :=
 bif !mayF n k then List.length (vecF n k i)=0∧1=vecE n k i∧vecF n k i=[] else bif decide (i<0) then (true=false→false=true)∧List.length (vecF n k i)=0∧7=vecE n k i∧vecF n k i=[] else bif decide (countF n k≤i) then List.length (vecF
 n k i)=0∧7=vecE n k i∧vecF n k i=[] else ∃ (x:Nat),((0=0∧0=0∧0=0∧0=0∧x=0∧n=n∧0=(x:Int)∧n=n∧false=false∧k=(vst n.toNat k i x).1∧false=false∧i=(vst n.toNat k i x).2.1∧false=false∧tabF=tabF∧false=false∧0=0∧false=false∧(vst n.toNat k i
 x).2.2=[])∧x≤n.toNat)∧∀ (x:Nat),x≤n.toNat→(IntKind.min .i64≤(x:Int)∧(x:Int)≤IntKind.max .i64∧(∀ (y:Int),List.Mem y [(vst n.toNat k i x).1]→IntKind.min .i64≤y∧y≤IntKind.max .i64)∧(∀ (y:Int),List.Mem y [(vst n.toNat k i x).2.1]→IntKind.min
 .i64≤y∧y≤IntKind.max .i64)∧∀ (y:Int),List.Mem y (vst n.toNat k i x).2.2→IntKind.min .i64≤y∧y≤IntKind.max .i64)→bif decide ((x:Int)<n) then (vst n.toNat k i x).1≤1000000∧(tabF=tabF∧((2:Nat) * (vst n.toNat k i x).1.toNat+1=List.length
 (numsF (vst n.toNat k i x).1.toNat)∧(2:Nat) * (vst n.toNat k i x).1.toNat+1≤1000000)∧0≤n - (x:Int) - 1∧n≤8∧0≤(x:Int)∧(∀ (z:Int),List.Mem z (numsF (vst n.toNat k i x).1.toNat)→0≤(vst n.toNat k i x).1 - sz13 z)∧(vst n.toNat k i x).1≤12∧0≤(vst
 n.toNat k i x).2.1)∧((0≤(pickF (n - (x:Int) - 1).toNat (vst n.toNat k i x).1.toNat (numsF (vst n.toNat k i x).1.toNat) (vst n.toNat k i x).2.1 (0:Nat)).1∧(pickF (n - (x:Int) - 1).toNat (vst n.toNat k i x).1.toNat (numsF (vst n.toNat
 k i x).1.toNat) (vst n.toNat k i x).2.1 (0:Nat)).1<(↑ ((2:Nat) * (vst n.toNat k i x).1.toNat+1):Int))∧0+(pickF (n - (x:Int) - 1).toNat (vst n.toNat k i x).1.toNat (numsF (vst n.toNat k i x).1.toNat) (vst n.toNat k i x).2.1 (0:Nat)).1.toNat<List.length
 (numsF (vst n.toNat k i x).1.toNat)∧(1:Nat)≤1∧0+x=List.length (vst n.toNat k i x).2.2∧(x+List.length (seg (List.getD (numsF (vst n.toNat k i x).1.toNat) (0+(pickF (n - (x:Int) - 1).toNat (vst n.toNat k i x).1.toNat (numsF (vst n.toNat
 k i x).1.toNat) (vst n.toNat k i x).2.1 (0:Nat)).1.toNat) (0:Int) :: List.replicate (nat_lit 0) (0:Int)) (0:Nat) (1:Nat))) * 8≤70368744177664)∧((0≤(pickF (n - (x:Int) - 1).toNat (vst n.toNat k i x).1.toNat (numsF (vst n.toNat k i x).1.toNat)
 (vst n.toNat k i x).2.1 (0:Nat)).1∧(pickF (n - (x:Int) - 1).toNat (vst n.toNat k i x).1.toNat (numsF (vst n.toNat k i x).1.toNat) (vst n.toNat k i x).2.1 (0:Nat)).1<(↑ ((2:Nat) * (vst n.toNat k i x).1.toNat+1):Int))∧0+(pickF (n - (x:Int)
 - 1).toNat (vst n.toNat k i x).1.toNat (numsF (vst n.toNat k i x).1.toNat) (vst n.toNat k i x).2.1 (0:Nat)).1.toNat<List.length (numsF (vst n.toNat k i x).1.toNat))∧∃ (y:Nat),(0=0∧0=0∧0=0∧0=0∧0=0∧x+List.length (seg (List.getD (numsF
 (vst n.toNat k i x).1.toNat) (0+(pickF (n - (x:Int) - 1).toNat (vst n.toNat k i x).1.toNat (numsF (vst n.toNat k i x).1.toNat) (vst n.toNat k i x).2.1 (0:Nat)).1.toNat) (0:Int) :: List.replicate (nat_lit 0) (0:Int)) (0:Nat) (1:Nat))=y∧n=n∧IntKind.wrap
 .i64 ((x:Int)+1)=(y:Int)∧n=n∧false=false∧IntKind.wrap .i64 ((vst n.toNat k i x).1 - sz13 (List.getD (numsF (vst n.toNat k i x).1.toNat) (0+(pickF (n - (x:Int) - 1).toNat (vst n.toNat k i x).1.toNat (numsF (vst n.toNat k i x).1.toNat)
 (vst n.toNat k i x).2.1 (0:Nat)).1.toNat) (0:Int)))=(vst n.toNat k i y).1∧false=false∧(pickF (n - (x:Int) - 1).toNat (vst n.toNat k i x).1.toNat (numsF (vst n.toNat k i x).1.toNat) (vst n.toNat k i x).2.1 (0:Nat)).2=(vst n.toNat k i
 y).2.1∧false=false∧tabF=tabF∧false=false∧0=0∧false=false∧List.append (List.drop (0:Nat) (vst n.toNat k i x).2.2) (seg (List.getD (numsF (vst n.toNat k i x).1.toNat) (0+(pickF (n - (x:Int) - 1).toNat (vst n.toNat k i x).1.toNat (numsF
 (vst n.toNat k i x).1.toNat) (vst n.toNat k i x).2.1 (0:Nat)).1.toNat) (0:Int) :: List.replicate (nat_lit 0) (0:Int)) (0:Nat) (1:Nat))=(vst n.toNat k i y).2.2∧false=false)∧y≤n.toNat∧n.toNat - y<n.toNat - x else 0=0∧x=List.length (vecF
 n k i)∧0=vecE n k i∧(vst n.toNat k i x).2.2=vecF n k i∧false=false
theorem vc45 (n k i : Int) : P45 n k i = vcFun C45 (ann45 n k i) Go.Proofs.Tryd.f40 [⟨.int .i64, n⟩, ⟨.int .i64, k⟩, ⟨.int .i64, i⟩] [] (out45 n k i) := by kernel_rfl

noncomputable def C43 : Ctx := ⟨Go.Proofs.Tryd.prog, D, G45, (fun _ _ => none), fun _ => []⟩
def ann43 (_r : Bool) (_n : Nat) (y : List Int) : Nat → St → Option Ann := fun id S => match id with | 0 => some ⟨Nat, [0, 5, 17, 18], [0, 1], fun a => [(19, .v (.int .i64) (a : Int)), (4, .v (.int .i64) (sumSz (y.drop a))), (6, .v (.int .i64) (numF y - numF (y.drop a)))], fun _ => [], fun a => a ≤ y.length, fun a => y.length - a⟩ | _ => some ⟨Nat, [0, 4, 5, 7, 8, 17, 18, 19, 30, 31], [0, 1, 2], fun j => [(32, .v (.int .i64) (j : Int)), (6, .v (.int .i64) (S.i 6 + sumBy (y.length - (S.i 7).toNat - 1) (S.i 4).toNat ((numsF (S.i 4).toNat).take j)))], fun _ => [], fun j => j ≤ (idxF (numsF (S.i 4).toNat) (S.i 8)).toNat, fun j => (idxF (numsF (S.i 4).toNat) (S.i 8)).toNat - j⟩
def out43 (_r : Bool) (n : Nat) (y : List Int) : COut := ⟨[n = y.length], .tup [⟨.int .i64, (indexF y).1⟩, ⟨.int .i64, (indexF y).2⟩], [], []⟩
def sp43 : Spec := fun args ins => match args, ins with
  | [⟨.ref .slice, .slice 0 (.int .i64) [] 0 n⟩], [⟨r, false, .int .i64, y⟩] => some (out43 r n y)
  | _, _ => none
def G43 := addG G45 87 sp43
def P43 (r : Bool) (n : Nat) (y : List Int) : Prop :=
 n=List.length y∧bif decide (12<pulsesF y) then 0=(indexF y).1∧7=(indexF y).2∧y=y∧r=r else ∃ (x:Nat),((0=0∧n=n∧pulsesF y=sumSz (List.drop x y)∧0=0∧0=numF y - numF (List.drop x y)∧0=0∧n=n∧(n:Int)=(n:Int)∧0=(x:Int)∧y=y∧r=r∧tabF=tabF∧false=false)∧x≤List.length
 y)∧∀ (x:Nat),x≤List.length y→IntKind.min .i64≤(x:Int)∧(x:Int)≤IntKind.max .i64∧IntKind.min .i64≤sumSz (List.drop x y)∧sumSz (List.drop x y)≤IntKind.max .i64∧IntKind.min .i64≤numF y - numF (List.drop x y)∧numF y - numF (List.drop x y)≤IntKind.max
 .i64→bif decide ((x:Int)<(n:Int)) then ((0≤(x:Int)∧(x:Int)<(n:Int))∧0+(x:Int).toNat<List.length y)∧sumSz (List.drop x y)≤1000000∧((2:Nat) * (sumSz (List.drop x y)).toNat+1≤List.length (numsF (sumSz (List.drop x y)).toNat)∧(2:Nat) *
 (sumSz (List.drop x y)).toNat+1≤1000000000∧0≤idxF (List.take ((2:Nat) * (sumSz (List.drop x y)).toNat+1) (numsF (sumSz (List.drop x y)).toNat)) (List.getD y (0+(x:Int).toNat) (0:Int))∧idxF (List.take ((2:Nat) * (sumSz (List.drop x y)).toNat+1)
 (numsF (sumSz (List.drop x y)).toNat)) (List.getD y (0+(x:Int).toNat) (0:Int))≤(↑ ((2:Nat) * (sumSz (List.drop x y)).toNat+1):Int))∧∃ (x_1:Nat),((0=0∧n=n∧sumSz (List.drop x y)=sumSz (List.drop x y)∧0=0∧numF y - numF (List.drop x y)=numF
 y - numF (List.drop x y)+sumBy (List.length y - (x:Int).toNat - 1) (sumSz (List.drop x y)).toNat (List.take x_1 (numsF (sumSz (List.drop x y)).toNat))∧(x:Int)=(x:Int)∧List.getD y (0+(x:Int).toNat) (0:Int)=List.getD y (0+(x:Int).toNat)
 (0:Int)∧0=0∧n=n∧(n:Int)=(n:Int)∧(x:Int)=(x:Int)∧0=0∧(idxF (List.take ((2:Nat) * (sumSz (List.drop x y)).toNat+1) (numsF (sumSz (List.drop x y)).toNat)) (List.getD y (0+(x:Int).toNat) (0:Int))).toNat - 0=(idxF (List.take ((2:Nat) * (sumSz
 (List.drop x y)).toNat+1) (numsF (sumSz (List.drop x y)).toNat)) (List.getD y (0+(x:Int).toNat) (0:Int))).toNat - 0∧(↑ ((idxF (List.take ((2:Nat) * (sumSz (List.drop x y)).toNat+1) (numsF (sumSz (List.drop x y)).toNat)) (List.getD y
 (0+(x:Int).toNat) (0:Int))).toNat - 0):Int)=(↑ ((idxF (List.take ((2:Nat) * (sumSz (List.drop x y)).toNat+1) (numsF (sumSz (List.drop x y)).toNat)) (List.getD y (0+(x:Int).toNat) (0:Int))).toNat - 0):Int)∧0=(x_1:Int)∧y=y∧r=r∧tabF=tabF∧false=false∧numsF
 (sumSz (List.drop x y)).toNat=numsF (sumSz (List.drop x y)).toNat∧false=false)∧x_1≤(idxF (numsF (sumSz (List.drop x y)).toNat) (List.getD y (0+(x:Int).toNat) (0:Int))).toNat)∧∀ (x_2:Nat),x_2≤(idxF (numsF (sumSz (List.drop x y)).toNat)
 (List.getD y (0+(x:Int).toNat) (0:Int))).toNat→IntKind.min .i64≤(x_2:Int)∧(x_2:Int)≤IntKind.max .i64∧IntKind.min .i64≤numF y - numF (List.drop x y)+sumBy (List.length y - (x:Int).toNat - 1) (sumSz (List.drop x y)).toNat (List.take x_2
 (numsF (sumSz (List.drop x y)).toNat))∧numF y - numF (List.drop x y)+sumBy (List.length y - (x:Int).toNat - 1) (sumSz (List.drop x y)).toNat (List.take x_2 (numsF (sumSz (List.drop x y)).toNat))≤IntKind.max .i64→bif decide ((x_2:Int)<(↑
 ((idxF (List.take ((2:Nat) * (sumSz (List.drop x y)).toNat+1) (numsF (sumSz (List.drop x y)).toNat)) (List.getD y (0+(x:Int).toNat) (0:Int))).toNat - 0):Int)) then ((0≤(x_2:Int)∧(x_2:Int)<(↑ ((idxF (List.take ((2:Nat) * (sumSz (List.drop
 x y)).toNat+1) (numsF (sumSz (List.drop x y)).toNat)) (List.getD y (0+(x:Int).toNat) (0:Int))).toNat - 0):Int))∧0+(x_2:Int).toNat<List.length (numsF (sumSz (List.drop x y)).toNat))∧((0≤IntKind.wrap .i64 (IntKind.wrap .i64 ((n:Int) -
 (x:Int)) - 1)∧IntKind.wrap .i64 (IntKind.wrap .i64 ((n:Int) - (x:Int)) - 1)<(↑ (9:Nat):Int))∧(0≤IntKind.wrap .i64 (sumSz (List.drop x y) - sz13 (List.getD (numsF (sumSz (List.drop x y)).toNat) (0+(x_2:Int).toNat) (0:Int)))∧IntKind.wrap
 .i64 (sumSz (List.drop x y) - sz13 (List.getD (numsF (sumSz (List.drop x y)).toNat) (0+(x_2:Int).toNat) (0:Int)))<(↑ (13:Nat):Int))∧(IntKind.wrap .i64 (IntKind.wrap .i64 ((n:Int) - (x:Int)) - 1)).toNat<9∧(IntKind.wrap .i64 (sumSz (List.drop
 x y) - sz13 (List.getD (numsF (sumSz (List.drop x y)).toNat) (0+(x_2:Int).toNat) (0:Int)))).toNat<13)∧∃ (y_1:Nat),(0=0∧n=n∧sumSz (List.drop x y)=sumSz (List.drop x y)∧0=0∧IntKind.wrap .i64 (numF y - numF (List.drop x y)+sumBy (List.length
 y - (x:Int).toNat - 1) (sumSz (List.drop x y)).toNat (List.take x_2 (numsF (sumSz (List.drop x y)).toNat))+List.getD (List.getD tabF (IntKind.wrap .i64 (IntKind.wrap .i64 ((n:Int) - (x:Int)) - 1)).toNat (List.replicate 13 (0:Int)))
 (IntKind.wrap .i64 (sumSz (List.drop x y) - sz13 (List.getD (numsF (sumSz (List.drop x y)).toNat) (0+(x_2:Int).toNat) (0:Int)))).toNat (0:Int))=numF y - numF (List.drop x y)+sumBy (List.length y - (x:Int).toNat - 1) (sumSz (List.drop
 x y)).toNat (List.take y_1 (numsF (sumSz (List.drop x y)).toNat))∧(x:Int)=(x:Int)∧List.getD y (0+(x:Int).toNat) (0:Int)=List.getD y (0+(x:Int).toNat) (0:Int)∧0=0∧n=n∧(n:Int)=(n:Int)∧(x:Int)=(x:Int)∧0=0∧(idxF (List.take ((2:Nat) * (sumSz
 (List.drop x y)).toNat+1) (numsF (sumSz (List.drop x y)).toNat)) (List.getD y (0+(x:Int).toNat) (0:Int))).toNat - 0=(idxF (List.take ((2:Nat) * (sumSz (List.drop x y)).toNat+1) (numsF (sumSz (List.drop x y)).toNat)) (List.getD y (0+(x:Int).toNat)
 (0:Int))).toNat - 0∧(↑ ((idxF (List.take ((2:Nat) * (sumSz (List.drop x y)).toNat+1) (numsF (sumSz (List.drop x y)).toNat)) (List.getD y (0+(x:Int).toNat) (0:Int))).toNat - 0):Int)=(↑ ((idxF (List.take ((2:Nat) * (sumSz (List.drop x
 y)).toNat+1) (numsF (sumSz (List.drop x y)).toNat)) (List.getD y (0+(x:Int).toNat) (0:Int))).toNat - 0):Int)∧IntKind.wrap .i64 ((x_2:Int)+1)=(y_1:Int)∧y=y∧r=r∧tabF=tabF∧false=false∧numsF (sumSz (List.drop x y)).toNat=numsF (sumSz (List.drop
 x y)).toNat∧false=false)∧y_1≤(idxF (numsF (sumSz (List.drop x y)).toNat) (List.getD y (0+(x:Int).toNat) (0:Int))).toNat∧(idxF (numsF (sumSz (List.drop x y)).toNat) (List.getD y (0+(x:Int).toNat) (0:Int))).toNat - y_1<(idxF (numsF (sumSz
 (List.drop x y)).toNat) (List.getD y (0+(x:Int).toNat) (0:Int))).toNat - x_2 else ∃ (y_1:Nat),(0=0∧n=n∧IntKind.wrap .i64 (sumSz (List.drop x y) - sz13 (List.getD y (0+(x:Int).toNat) (0:Int)))=sumSz (List.drop y_1 y)∧0=0∧numF y - numF
 (List.drop x y)+sumBy (List.length y - (x:Int).toNat - 1) (sumSz (List.drop x y)).toNat (List.take x_2 (numsF (sumSz (List.drop x y)).toNat))=numF y - numF (List.drop y_1 y)∧0=0∧n=n∧(n:Int)=(n:Int)∧IntKind.wrap .i64 ((x:Int)+1)=(y_1:Int)∧y=y∧r=r∧tabF=tabF∧false=false)∧y_1≤List.length
 y∧List.length y - y_1<List.length y - x else numF y - numF (List.drop x y)=(indexF y).1∧0=(indexF y).2∧y=y∧r=r
theorem vc43 (r : Bool) (n : Nat) (y : List Int) : P43 r n y = vcFun C43 (ann43 r n y) Go.Proofs.Tryd.f87 [⟨.ref .slice, .slice 0 (.int .i64) [] 0 n⟩] [⟨r, false, .int .i64, y⟩] (out43 r n y) := by kernel_rfl

noncomputable def C42 : Ctx := ⟨Go.Proofs.Tryd.prog, D, G43, (fun _ _ => none), fun _ => []⟩
def ann42 (k : Int) : Nat → St → Option Ann := fun _ _ => some ⟨Nat × Int, [], [], fun x => [(3, .v (.int .i64) (x.1 : Int)), (4, .v (.int .i64) x.2)], fun _ => [], fun x => x.1 + bitLen x.2.toNat = bitLen (countF 4 k - 1).toNat ∧ x.2 ≤ 10000000000, fun x => x.2.toNat⟩
def out42 (k : Int) : COut := ⟨[], .v (.int .i64) (bitsF k), [], []⟩
def sp42 : Spec := fun args ins => match args, ins with
  | [⟨.int .i64, k⟩], [] => some (out42 k)
  | _, _ => none
def G42 := addG G43 136 sp42
def P42 (k : Int) : Prop :=
 ∃ (x:Nat × Int),((0=(↑ x.1:Int)∧IntKind.wrap .i64 (countF (4:Int) k - 1)=x.2)∧x.1+bitLen x.2.toNat=bitLen (countF (4:Int) k - 1).toNat∧x.2≤10000000000)∧∀ (x:Nat × Int),x.1+bitLen x.2.toNat=bitLen (countF (4:Int) k - 1).toNat∧x.2≤10000000000→IntKind.min
 .i64≤(↑ x.1:Int)∧(↑ x.1:Int)≤IntKind.max .i64∧IntKind.min .i64≤x.2∧x.2≤IntKind.max .i64→bif decide (0<x.2) then (0:Int)≤1∧∃ (y:Nat × Int),(IntKind.wrap .i64 ((↑ x.1:Int)+1)=(↑ y.1:Int)∧ishr .i64 x.2 (1:Int)=y.2)∧(y.1+bitLen y.2.toNat=bitLen
 (countF (4:Int) k - 1).toNat∧y.2≤10000000000)∧y.2.toNat<x.2.toNat else (↑ x.1:Int)=bitsF k
theorem vc42 (k : Int) : P42 k = vcFun C42 (ann42 k) Go.Proofs.Tryd.f136 [⟨.int .i64, k⟩] [] (out42 k) := by kernel_rfl

end Go.SL.A

/- Vectors of pulses: plain laws. -/
namespace Go.SL.A
open Go Go.SL Go.SL.S

theorem mem_numsF {z : Int} : ∀ {K : Nat}, z ∈ numsF K ↔ -(K : Int) ≤ z ∧ z ≤ (K : Int)
  | 0 => by simp [numsF]; omega
  | K + 1 => by
    simp only [numsF, List.mem_append, mem_numsF, List.mem_cons, List.not_mem_nil, or_false]
    omega

theorem sz13_in {z : Int} {K : Nat} (hK : K ≤ 12) (h : z ∈ numsF K) : 0 ≤ sz13 z ∧ sz13 z ≤ K ∧ (sz13 z = z ∨ sz13 z = -z) := by
  have := mem_numsF.1 h
  unfold sz13
  rw [if_neg (by omega)]; omega

theorem sumBy_append (n K : Nat) : ∀ p q : List Int, sumBy n K (p ++ q) = sumBy n K p + sumBy n K q
  | [], q => by simp [sumBy]
  | x :: p, q => by simp only [List.cons_append, sumBy, sumBy_append n K p q]; omega

theorem sumBy_nn (n K : Nat) : ∀ l : List Int, 0 ≤ sumBy n K l
  | [] => by simp [sumBy]
  | x :: l => by have := sumBy_nn n K l; have := (cnt_le n (K - (sz13 x).toNat)).1; simp only [sumBy]; omega

def revTo (f : Nat → Int) (K : Nat) : Nat → Int
  | 0 => 0
  | J + 1 => revTo f K J + f (K - (J + 1))

theorem revTo_sum (f : Nat → Int) (K : Nat) : ∀ J, J ≤ K → sumTo f K = sumTo f (K - J) + revTo f K J
  | 0, _ => by simp [revTo]
  | J + 1, h => by
    have ih := revTo_sum f K J (by omega)
    have e : K - J = (K - (J + 1)) + 1 := by omega
    rw [e, sumTo] at ih
    rw [revTo]; omega

theorem sz13_small {z : Int} (h1 : -12 ≤ z) (h2 : z ≤ 12) : sz13 z = max z (-z) := by
  unfold sz13; rw [if_neg (by omega)]

theorem sumBy_nums (n K : Nat) (hK : K ≤ 12) : ∀ J, J ≤ K → sumBy n K (numsF J) = cnt n K + 2 * revTo (cnt n) K J
  | 0, _ => by
    have e : sz13 0 = 0 := by decide
    simp [numsF, sumBy, revTo, e]
  | J + 1, h => by
    rw [numsF, sumBy_append, sumBy_nums n K hK J (by omega), revTo]
    have e1 : (sz13 ((J + 1 : Nat) : Int)).toNat = J + 1 := by rw [sz13_small (by omega) (by omega)]; omega
    have e2 : (sz13 (-((J + 1 : Nat) : Int))).toNat = J + 1 := by rw [sz13_small (by omega) (by omega)]; omega
    simp only [sumBy, e1, e2]; omega

/-- Of n + 1 numbers there are as many vectors as of n numbers behind each first one. -/
theorem sumBy_all {n K : Nat} (hK : K ≤ 12) : sumBy n K (numsF K) = cnt (n + 1) K := by
  rw [sumBy_nums n K hK K (Nat.le_refl _), cnt_sum, revTo_sum (cnt n) K K (Nat.le_refl _)]
  simp [sumTo]

theorem pick_spec (n K : Nat) : ∀ (l : List Int) (i : Int) (j : Nat), 0 ≤ i → i < sumBy n K l →
    ∃ p, p < l.length ∧ pickF n K l i j = (((j + p : Nat) : Int), i - sumBy n K (l.take p)) ∧ 0 ≤ i - sumBy n K (l.take p) ∧ i - sumBy n K (l.take p) < cnt n (K - (sz13 (l.getD p 0)).toNat)
  | [], i, j, h0, h => by simp [sumBy] at h; omega
  | z :: l, i, j, h0, h => by
    rw [pickF]
    by_cases hc : i < cnt n (K - (sz13 z).toNat)
    · rw [if_pos hc]
      exact ⟨0, by simp, by simp [sumBy], by simpa [sumBy] using h0, by simpa [sumBy] using hc⟩
    · rw [if_neg hc]
      simp only [sumBy] at h
      obtain ⟨p, h1, h2, h3, h4⟩ := pick_spec n K l (i - cnt n (K - (sz13 z).toNat)) (j + 1) (by omega) (by omega)
      refine ⟨p + 1, by simp; omega, ?_, ?_, ?_⟩
      · rw [h2, List.take_succ_cons, sumBy]
        congr 1
        · congr 1; omega
        · omega
      · rw [List.take_succ_cons, sumBy]; omega
      · rw [List.take_succ_cons, sumBy, List.getD_cons_succ]; omega

/-- What holds while a vector is found. -/
structure VI (n a : Nat) (k : Int) (s : Int × Int × List Int) : Prop where
  k0 : 0 ≤ s.1
  k1 : s.1 ≤ 12
  i0 : 0 ≤ s.2.1
  i1 : s.2.1 < cnt (n - a) s.1.toNat
  len : s.2.2.length = a
  sum : sumSz s.2.2 + s.1 = k
  rng : ∀ z ∈ s.2.2, -12 ≤ z ∧ z ≤ 12

theorem vst_ok {n : Nat} {k i : Int} (_hn : n ≤ 8) (hk0 : 0 ≤ k) (hk : k ≤ 12) (hi : 0 ≤ i) (hi2 : i < cnt n k.toNat) : ∀ a, a ≤ n → VI n a k (vst n k i a) ∧
    (a < n → ∃ p : Nat, p < (numsF (vst n k i a).1.toNat).length ∧ pickF (n - a - 1) (vst n k i a).1.toNat (numsF (vst n k i a).1.toNat) (vst n k i a).2.1 0 = ((p : Int), (vst n k i a).2.1 - sumBy (n - a - 1) (vst n k i a).1.toNat ((numsF (vst n k i a).1.toNat).take p)) ∧
      0 ≤ (vst n k i a).2.1 - sumBy (n - a - 1) (vst n k i a).1.toNat ((numsF (vst n k i a).1.toNat).take p) ∧
      (vst n k i a).2.1 - sumBy (n - a - 1) (vst n k i a).1.toNat ((numsF (vst n k i a).1.toNat).take p) < cnt (n - a - 1) ((vst n k i a).1.toNat - (sz13 ((numsF (vst n k i a).1.toNat).getD p 0)).toNat)) := by
  have next : ∀ a, a < n → VI n a k (vst n k i a) → ∃ p : Nat, p < (numsF (vst n k i a).1.toNat).length ∧ pickF (n - a - 1) (vst n k i a).1.toNat (numsF (vst n k i a).1.toNat) (vst n k i a).2.1 0 = ((p : Int), (vst n k i a).2.1 - sumBy (n - a - 1) (vst n k i a).1.toNat ((numsF (vst n k i a).1.toNat).take p)) ∧
      0 ≤ (vst n k i a).2.1 - sumBy (n - a - 1) (vst n k i a).1.toNat ((numsF (vst n k i a).1.toNat).take p) ∧
      (vst n k i a).2.1 - sumBy (n - a - 1) (vst n k i a).1.toNat ((numsF (vst n k i a).1.toNat).take p) < cnt (n - a - 1) ((vst n k i a).1.toNat - (sz13 ((numsF (vst n k i a).1.toNat).getD p 0)).toNat) := by
    intro a ha h
    have hs : (vst n k i a).2.1 < sumBy (n - a - 1) (vst n k i a).1.toNat (numsF (vst n k i a).1.toNat) := by
      rw [sumBy_all (by have := h.k1; omega), show n - a - 1 + 1 = n - a by omega]; exact h.i1
    obtain ⟨p, h1, h2, h3, h4⟩ := pick_spec (n - a - 1) (vst n k i a).1.toNat _ _ 0 h.i0 hs
    exact ⟨p, h1, by rw [h2]; simp, h3, h4⟩
  intro a
  induction a with
  | zero =>
    intro _
    have h0 : VI n 0 k (vst n k i 0) := ⟨hk0, hk, hi, hi2, rfl, by simp [vst, sumSz], fun z hz => by simp [vst] at hz⟩
    exact ⟨h0, fun h => next 0 h h0⟩
  | succ a ih =>
    intro ha
    obtain ⟨h, hx⟩ := ih (by omega)
    obtain ⟨p, h1, h2, h3, h4⟩ := hx (by omega)
    have hv : VI n (a + 1) k (vst n k i (a + 1)) := by
      rw [vst]
      generalize vst n k i a = s at *
      rw [h2]
      simp only [Int.toNat_natCast]
      have hm := getD_mem (d := 0) h1
      have hz := sz13_in (by have := h.k1; omega) hm
      have hz2 := mem_numsF.1 hm
      have k0 := h.k0
      have k1 := h.k1
      generalize (numsF s.1.toNat).getD p 0 = z at *
      refine ⟨by simp only; omega, by simp only; omega, h3, ?_, by simp [h.len], ?_, fun y hy => ?_⟩
      · show _ < cnt (n - (a + 1)) (s.1 - sz13 z).toNat
        rw [show n - (a + 1) = n - a - 1 by omega, show (s.1 - sz13 z).toNat = s.1.toNat - (sz13 z).toNat by omega]; exact h4
      · show sumSz (s.2.2 ++ [z]) + (s.1 - sz13 z) = k
        rw [sumSz_append]; have := h.sum; simp only [sumSz]; omega
      · rcases List.mem_append.1 hy with hy | hy
        · exact h.rng y hy
        · rw [List.mem_singleton.1 hy]; omega
    exact ⟨hv, fun h => next (a + 1) h hv⟩

end Go.SL.A

namespace Go.SL.A
open Go Go.SL Go.SL.S

theorem pure45 (n k i : Int) : P45 n k i := by
  unfold P45
  cases hm : mayF n k with
  | false =>
    have e1 : vecF n k i = [] := by unfold vecF; rw [if_neg (by simp [hm])]
    have e2 : vecE n k i = 1 := by unfold vecE; simp [hm]
    simp [e1, e2]
  | true =>
    have hb : 0 ≤ n ∧ n ≤ 8 ∧ 0 ≤ k ∧ k ≤ 12 := by simpa [mayF] using hm
    have hc : countF n k = cnt n.toNat k.toNat := by unfold countF; simp [hm]
    simp only [Bool.not_true, cond_false]
    by_cases hi : i < 0
    · have e1 : vecF n k i = [] := by unfold vecF; rw [if_neg (by omega)]
      have e2 : vecE n k i = 7 := by unfold vecE; rw [hm, if_pos rfl, if_neg (by omega)]
      simp [e1, e2, hi]
    by_cases hi2 : countF n k ≤ i
    · have e1 : vecF n k i = [] := by unfold vecF; rw [if_neg (by omega)]
      have e2 : vecE n k i = 7 := by unfold vecE; rw [hm, if_pos rfl, if_neg (by omega)]
      simp [e1, e2, hi, hi2]
    have e1 : vecF n k i = (vst n.toNat k i n.toNat).2.2 := by unfold vecF; rw [if_pos ⟨hm, by omega, by omega⟩]
    have e2 : vecE n k i = 0 := by unfold vecE; rw [hm, if_pos rfl, if_pos (by omega)]
    simp only [hi, hi2, decide_false, cond_false, e1, e2, eq_self, true_and, and_true, Nat.zero_add]
    rw [hc] at hi2
    have hv := vst_ok (n := n.toNat) (k := k) (i := i) (by omega) hb.2.2.1 hb.2.2.2 (by omega) (by omega)
    refine ⟨0, ⟨⟨rfl, rfl, rfl, rfl, rfl⟩, by omega⟩, fun a ha _ => ?_⟩
    obtain ⟨h, hx⟩ := hv a ha
    clear hv
    by_cases hax : (a : Int) < n
    · have han : a < n.toNat := by clear hx; omega
      obtain ⟨p, p1, p2, p3, p4⟩ := hx han
      clear hx
      simp only [hax, decide_true, cond_true]
      have en : (n - (a : Int) - 1).toNat = n.toNat - a - 1 := by omega
      have e3 : vst n.toNat k i (a + 1) = ((vst n.toNat k i a).1 - sz13 ((numsF (vst n.toNat k i a).1.toNat).getD (pickF (n.toNat - a - 1) (vst n.toNat k i a).1.toNat (numsF (vst n.toNat k i a).1.toNat) (vst n.toNat k i a).2.1 0).1.toNat 0), (pickF (n.toNat - a - 1) (vst n.toNat k i a).1.toNat (numsF (vst n.toNat k i a).1.toNat) (vst n.toNat k i a).2.1 0).2, (vst n.toNat k i a).2.2 ++ [(numsF (vst n.toNat k i a).1.toNat).getD (pickF (n.toNat - a - 1) (vst n.toNat k i a).1.toNat (numsF (vst n.toNat k i a).1.toNat) (vst n.toNat k i a).2.1 0).1.toNat 0]) := rfl
      rw [en]
      generalize vst n.toNat k i a = s at *
      rw [p2] at e3 ⊢
      simp only [Int.toNat_natCast] at e3 ⊢
      have w : IntKind.i64.wrap ((a : Int) + 1) = ((a + 1 : Nat) : Int) := by rw [w64 (by omega) (by omega)]; simp
      have hm := getD_mem (d := 0) p1
      have k0 := h.k0
      have k1 := h.k1
      have i0 := h.i0
      have hl := numsF_len s.1.toNat
      have hz := sz13_in (by omega) hm
      have w2 : IntKind.i64.wrap (s.1 - sz13 ((numsF s.1.toNat).getD p 0)) = s.1 - sz13 ((numsF s.1.toNat).getD p 0) := w64 (by omega) (by omega)
      have es : ∀ v : Int, seg (v :: List.replicate 0 (0 : Int)) 0 1 = [v] := fun v => rfl
      simp only [es, List.length_singleton, w, w2]
      refine ⟨by omega, ⟨⟨by omega, by omega⟩, by omega, by omega, by omega, fun z hz => ?_, k1, i0⟩, ⟨by omega, p1, by omega, by rw [h.len], by omega⟩, ⟨by omega, p1⟩, a + 1, ⟨rfl, rfl, ?_, ?_, ?_⟩, by omega, by omega⟩
      · have := sz13_in (by omega) hz; omega
      · rw [e3]
      · rw [e3]
      · rw [e3]; rfl
    · have : a = n.toNat := by clear hx; omega
      subst this
      simp only [hax, decide_false, cond_false]
      exact ⟨h.len.symm, trivial⟩

theorem ishr1 (l : Int) : ishr .i64 l 1 = l / 2 := by
  unfold ishr
  simp only [show (2 : Int) ^ (min (1 : Int).toNat IntKind.i64.bits) = 2 by decide]
  exact Int.fdiv_eq_ediv_of_nonneg l (by decide)

theorem bitLen_half {m : Nat} (h : 0 < m) : bitLen m = bitLen (m / 2) + 1 := by
  unfold bitLen
  rw [if_neg (by omega)]
  by_cases h2 : m / 2 = 0
  · rw [if_pos h2]
    have : m = 1 := by omega
    subst this; decide
  · rw [if_neg h2, Nat.log2_def]
    rw [if_pos (by omega)]

theorem bitLen_le {m : Nat} (h : m ≤ 10000000000) : bitLen m ≤ 10000000000 := by
  unfold bitLen
  split
  · omega
  · have := Nat.log2_le_self m
    have : m.log2 < m := by
      rcases Nat.lt_or_ge m.log2 m with h | h
      · exact h
      · exfalso
        have h3 := Nat.lt_two_pow_self (n := m)
        have h4 := Nat.log2_self_le (n := m) (by omega)
        have h5 : 2 ^ m ≤ 2 ^ m.log2 := Nat.pow_le_pow_right (by decide) h
        omega
    omega

theorem countF_fits (n k : Int) : 0 ≤ countF n k ∧ countF n k ≤ 3486784401 := by
  unfold countF
  split
  · rename_i hm
    have hb : 0 ≤ n ∧ n ≤ 8 ∧ 0 ≤ k ∧ k ≤ 12 := by simpa [mayF] using hm
    exact cnt_fits (by omega) (by omega)
  · omega

theorem pure42 (k : Int) : P42 k := by
  unfold P42
  have hq : bitsF k = (bitLen (countF 4 k - 1).toNat : Nat) := rfl
  rw [hq]
  have hc := countF_fits 4 k
  generalize countF 4 k = c at *
  have w : IntKind.i64.wrap (c - 1) = c - 1 := w64 (by omega) (by omega)
  rw [w]
  refine ⟨(0, c - 1), ⟨by simp, by simp, by simp; omega⟩, fun x hx _ => ?_⟩
  obtain ⟨m, l⟩ := x
  obtain ⟨h1, h2⟩ := hx
  simp only at h1 h2 ⊢
  have hb := bitLen_le (m := (c - 1).toNat) (by omega)
  by_cases h : 0 < l
  · simp only [h, decide_true, cond_true]
    have w1 : IntKind.i64.wrap ((m : Int) + 1) = ((m + 1 : Nat) : Int) := by rw [w64 (by omega) (by omega)]; simp
    refine ⟨by decide, (m + 1, l / 2), ⟨w1, ishr1 l⟩, ⟨?_, by simp only; omega⟩, by simp only; omega⟩
    have := bitLen_half (m := l.toNat) (by omega)
    simp only
    rw [show (l / 2).toNat = l.toNat / 2 by omega]; omega
  · simp only [h, decide_false, cond_false]
    have e : bitLen l.toNat = 0 := by rw [show l.toNat = 0 by omega]; rfl
    omega

end Go.SL.A

/- Vectors' numbers: plain laws; the code of Index. -/
namespace Go.SL.A
open Go Go.SL Go.SL.S

theorem idx_mem {v : Int} : ∀ {l : List Int} (i : Nat), v ∈ l → ∃ p, p < l.length ∧ idxFrom v l i = ((i + p : Nat) : Int) ∧ l.getD p 0 = v
  | [], i, h => by cases h
  | x :: l, i, h => by
    by_cases e : v = x
    · subst e
      exact ⟨0, by simp, by simp [idxFrom], by simp⟩
    · have h2 : v ∈ l := by rcases List.mem_cons.1 h with h | h; exact absurd h e; exact h
      obtain ⟨p, h1, h3, h4⟩ := idx_mem (i + 1) h2
      refine ⟨p + 1, by simp; omega, ?_, by rw [List.getD_cons_succ]; exact h4⟩
      rw [idxFrom, if_neg e, h3]; congr 1; omega

theorem sumBy_take_succ (n K : Nat) {l : List Int} {p : Nat} (h : p < l.length) : sumBy n K (l.take (p + 1)) = sumBy n K (l.take p) + cnt n (K - (sz13 (l.getD p 0)).toNat) := by
  rw [take_snoc' 0 h, sumBy_append]; simp [sumBy]

theorem sumBy_take_le (n K : Nat) (l : List Int) (p : Nat) : sumBy n K (l.take p) ≤ sumBy n K l := by
  have h := sumBy_append n K (l.take p) (l.drop p)
  rw [List.take_append_drop] at h
  have := sumBy_nn n K (l.drop p); omega

theorem sz13_le12 {x : Int} (h : sz13 x ≤ 12) : -12 ≤ x ∧ x ≤ 12 ∧ (sz13 x = x ∨ sz13 x = -x) := by
  unfold sz13 at *
  split at h
  · omega
  · rename_i h1; rw [if_neg h1]; omega

/-- A first number, and those that follow. -/
theorem numF_cons {x : Int} {ys : List Int} (h : sumSz (x :: ys) ≤ 12) : ∃ p : Nat, p < (numsF (sumSz (x :: ys)).toNat).length ∧ idxF (numsF (sumSz (x :: ys)).toNat) x = (p : Int) ∧ (numsF (sumSz (x :: ys)).toNat).getD p 0 = x ∧
    numF (x :: ys) = sumBy ys.length (sumSz (x :: ys)).toNat ((numsF (sumSz (x :: ys)).toNat).take p) + numF ys ∧ (sumSz (x :: ys)).toNat - (sz13 x).toNat = (sumSz ys).toNat := by
  have h1 := sumSz_le ys
  have h2 := sz13_le x
  have e : sumSz (x :: ys) = sz13 x + sumSz ys := rfl
  have h3 := sz13_le12 (x := x) (by omega)
  have hm : x ∈ numsF (sumSz (x :: ys)).toNat := mem_numsF.2 (by omega)
  obtain ⟨p, p1, p2, p3⟩ := idx_mem 0 hm
  rw [Nat.zero_add] at p2
  refine ⟨p, p1, p2, p3, ?_, by omega⟩
  rw [numF, show idxF (numsF (sumSz (x :: ys)).toNat) x = (p : Int) from p2, Int.toNat_natCast]

theorem numF_lt : ∀ {y : List Int}, sumSz y ≤ 12 → 0 ≤ numF y ∧ numF y < cnt y.length (sumSz y).toNat
  | [], _ => by simp [numF, sumSz, cnt, cnt0]
  | x :: ys, h => by
    have e : sumSz (x :: ys) = sz13 x + sumSz ys := rfl
    have h1 := sumSz_le ys
    have h2 := sz13_le x
    obtain ⟨p, p1, p2, p3, p4, p5⟩ := numF_cons h
    obtain ⟨i1, i2⟩ := numF_lt (y := ys) (by omega)
    have s1 := sumBy_take_succ ys.length (sumSz (x :: ys)).toNat p1
    rw [p3, p5] at s1
    have s2 := sumBy_take_le ys.length (sumSz (x :: ys)).toNat (numsF (sumSz (x :: ys)).toNat) (p + 1)
    rw [sumBy_all (by omega)] at s2
    have s3 := sumBy_nn ys.length (sumSz (x :: ys)).toNat ((numsF (sumSz (x :: ys)).toNat).take p)
    rw [p4, List.length_cons]
    omega

theorem sumSz_drop (y : List Int) (a : Nat) : sumSz (y.drop a) ≤ sumSz y := by
  have h := sumSz_append (y.take a) (y.drop a)
  rw [List.take_append_drop] at h
  have := (sumSz_le (y.take a)).1; omega

theorem numF_drop_le {y : List Int} (h : sumSz y ≤ 12) : ∀ a, numF (y.drop a) ≤ numF y := by
  induction y with
  | nil => intro a; simp
  | cons x ys ih =>
    intro a
    have e : sumSz (x :: ys) = sz13 x + sumSz ys := rfl
    have h1 := sumSz_le ys
    have h2 := sz13_le x
    cases a with
    | zero => simp
    | succ a =>
      obtain ⟨p, p1, p2, p3, p4, p5⟩ := numF_cons h
      have := ih (by omega) a
      have := sumBy_nn ys.length (sumSz (x :: ys)).toNat ((numsF (sumSz (x :: ys)).toNat).take p)
      rw [List.drop_succ_cons, p4]; omega

theorem pure43 (r : Bool) (n : Nat) (y : List Int) (hn : n = y.length) : P43 r n y := by
  subst hn
  unfold P43
  refine ⟨rfl, ?_⟩
  by_cases hp : 12 < pulsesF y
  · have e : indexF y = (0, 7) := by unfold indexF; rw [if_pos hp]
    simp [hp, e]
  have e : indexF y = (numF y, 0) := by unfold indexF; rw [if_neg hp]
  have hl : ¬ 8 < y.length := fun h => by apply hp; unfold pulsesF; rw [if_pos h]; decide
  have hps : pulsesF y = min (sumSz y) 13 := by unfold pulsesF; rw [if_neg hl]
  have hsz : sumSz y ≤ 12 := by omega
  have hs0 := sumSz_le y
  have hpe : pulsesF y = sumSz y := by omega
  obtain ⟨b1, b2⟩ := numF_lt hsz
  have b3 := cnt_fits (n := y.length) (k := (sumSz y).toNat) (by omega) (by omega)
  have hp2 : ¬ (12 : Int) < sumSz y := by omega
  simp only [hp2, decide_false, cond_false, e, hpe, eq_self, true_and, and_true, Int.toNat_natCast, Nat.zero_add, Nat.sub_zero]
  refine ⟨0, ⟨by simp, by omega⟩, fun a ha _ => ?_⟩
  by_cases h : (a : Int) < (y.length : Int)
  · have hal : a < y.length := by omega
    have w : IntKind.i64.wrap ((a : Int) + 1) = ((a + 1 : Nat) : Int) := by rw [w64 (by omega) (by omega)]; simp
    have w2 : IntKind.i64.wrap ((y.length : Int) - (a : Int)) = ((y.length - a : Nat) : Int) := by rw [w64 (by omega) (by omega)]; omega
    have w3 : IntKind.i64.wrap (((y.length - a : Nat) : Int) - 1) = ((y.length - a - 1 : Nat) : Int) := by rw [w64 (by omega) (by omega)]; omega
    have ed : y.drop a = y.getD a 0 :: y.drop (a + 1) := by
      rw [List.drop_eq_getElem_cons hal]; simp [hal]
    have hd := sumSz_drop y a
    have hd0 := (sumSz_le (y.drop a)).1
    have hd1 := (sumSz_le (y.drop (a + 1))).1
    have ee : sumSz (y.drop a) = sz13 (y.getD a 0) + sumSz (y.drop (a + 1)) := by rw [ed]; rfl
    obtain ⟨p, p1, p2, p3, p4, p5⟩ := numF_cons (x := y.getD a 0) (ys := y.drop (a + 1)) (by rw [← ed]; omega)
    have hn1 := numF_drop_le hsz a
    have hn2 := numF_lt (y := y.drop a) (by omega)
    rw [← ed] at p1 p2 p3 p4 p5
    have elen : (y.drop (a + 1)).length = y.length - a - 1 := by rw [List.length_drop]; omega
    rw [elen] at p4
    have hsz2 := sz13_le (y.getD a 0)
    generalize hK : sumSz (y.drop a) = K at *
    have hl2 := numsF_len K.toNat
    have et : (numsF K.toNat).take (2 * K.toNat + 1) = numsF K.toNat := List.take_of_length_le (by omega)
    have wk : IntKind.i64.wrap (K - sz13 (y.getD a 0)) = sumSz (y.drop (a + 1)) := by rw [w64 (by omega) (by omega)]; omega
    simp only [h, decide_true, cond_true, et, p2, Int.toNat_natCast, w, w2, w3, wk]
    refine ⟨by simp [hal], by omega, ⟨by omega, by omega, by omega, by omega⟩, 0, ⟨by simp [sumBy], by omega⟩, fun j hj _ => ?_⟩
    by_cases hjp : (j : Int) < (p : Int)
    · have hjl : j < (numsF K.toNat).length := by omega
      have wj : IntKind.i64.wrap ((j : Int) + 1) = ((j + 1 : Nat) : Int) := by rw [w64 (by omega) (by omega)]; simp
      have hm := getD_mem (d := 0) hjl
      have hz := sz13_in (by omega) hm
      have wz : IntKind.i64.wrap (K - sz13 ((numsF K.toNat).getD j 0)) = K - sz13 ((numsF K.toNat).getD j 0) := w64 (by omega) (by omega)
      have s1 := sumBy_take_succ (y.length - a - 1) K.toNat hjl
      have s2 := sumBy_take_le (y.length - a - 1) K.toNat (numsF K.toNat) (j + 1)
      rw [sumBy_all (by omega)] at s2
      have s3 := sumBy_nn (y.length - a - 1) K.toNat ((numsF K.toNat).take j)
      have s4 := cnt_fits (n := y.length - a - 1 + 1) (k := K.toNat) (by omega) (by omega)
      have s5 := (cnt_le (y.length - a - 1) (K.toNat - (sz13 ((numsF K.toNat).getD j 0)).toNat)).1
      have et2 : (tabF.getD (y.length - a - 1) (List.replicate 13 0)).getD (K - sz13 ((numsF K.toNat).getD j 0)).toNat 0 = cnt (y.length - a - 1) (K.toNat - (sz13 ((numsF K.toNat).getD j 0)).toNat) := by
        unfold tabF; rw [tab_get (by omega), row_get (by omega)]; congr 1; omega
      simp only [hjp, decide_true, cond_true, wj, wz, et2]
      rw [w64 (by omega) (by omega)]
      refine ⟨by simp [hjl], by omega, j + 1, ⟨by rw [s1]; omega, rfl⟩, by omega, by omega⟩
    · have : j = p := by omega
      subst this
      simp only [hjp, decide_false, cond_false]
      refine ⟨a + 1, ⟨rfl, by omega, rfl⟩, by omega, by omega⟩
  · have : a = y.length := by omega
    subst this
    simp only [h, decide_false, cond_false, List.drop_length, numF]
    omega

end Go.SL.A

/- Functions do what they are held to do. -/
namespace Go.SL.A
open Go Go.SL Go.SL.S
theorem snd45 : Sound Go.Proofs.Tryd.prog G45 := snd90.add ⟨_, Go.Proofs.Tryd.func40, by kernel_rfl, by kernel_rfl⟩ (by
  intro args ins out h hp
  unfold sp45 at h
  split at h
  · rename_i n k i
    cases h
    exact vcFun_ok (C := C45) good snd90 Meth.none mix Go.Proofs.Tryd.func40 (ann45 n k i) (fun hw => by rw [← vc45 n k i]; exact pure45 n k i)
  · cases h)

theorem snd43 : Sound Go.Proofs.Tryd.prog G43 := snd45.add ⟨_, Go.Proofs.Tryd.func87, by kernel_rfl, by kernel_rfl⟩ (by
  intro args ins out h hp
  unfold sp43 at h
  split at h
  · rename_i n r y
    cases h
    exact vcFun_ok (C := C43) good snd45 Meth.none mix Go.Proofs.Tryd.func87 (ann43 r n y) (fun hw => by rw [← vc43 r n y]; exact pure43 r n y hp)
  · cases h)

theorem snd42 : Sound Go.Proofs.Tryd.prog G42 := snd43.add ⟨_, Go.Proofs.Tryd.func136, by kernel_rfl, by kernel_rfl⟩ (by
  intro args ins out h hp
  unfold sp42 at h
  split at h
  · rename_i k
    cases h
    exact vcFun_ok (C := C42) good snd43 Meth.none mix Go.Proofs.Tryd.func136 (ann42 k) (fun hw => by rw [← vc42 k]; exact pure42 k)
  · cases h)

end Go.SL.A

/- Plain functions of the statements on pvq. -/
namespace Go.SL.S
open Go
end Go.SL.S

/- Functions and what they are held to do: bound to their code. -/
namespace Go.SL.A
open Go Go.SL Go.SL.S
set_option maxRecDepth 100000
end Go.SL.A

namespace Go.SL.A
open Go Go.SL Go.SL.S
end Go.SL.A

/- Functions do what they are held to do. -/
namespace Go.SL.A
open Go Go.SL Go.SL.S
end Go.SL.A

/- Vectors and their numbers: plain laws. -/
namespace Go.SL.A
open Go Go.SL Go.SL.S

theorem numsF_get : ∀ {K p : Nat}, p < 2 * K + 1 → (numsF K).getD p 0 = if p % 2 = 1 then (((p + 1) / 2 : Nat) : Int) else -((p / 2 : Nat) : Int)
  | 0, p, h => by
    have : p = 0 := by omega
    subst this; rfl
  | K + 1, p, h => by
    have hl := numsF_len K
    rw [numsF, List.getD_eq_getElem?_getD]
    by_cases h1 : p < 2 * K + 1
    · rw [List.getElem?_append_left (by omega), ← List.getD_eq_getElem?_getD]; exact numsF_get h1
    · rw [List.getElem?_append_right (by omega), hl]
      have h2 : p = 2 * K + 1 ∨ p = 2 * K + 2 := by omega
      rcases h2 with rfl | rfl
      · rw [Nat.sub_self, if_pos (by omega)]
        simp <;> omega
      · rw [show 2 * K + 2 - (2 * K + 1) = 1 by omega, if_neg (by omega)]
        simp <;> omega

/-- Which place a number has among 0, 1, -1, 2, .. -/
def rk (x : Int) : Nat := if 0 < x then (2 * x - 1).toNat else (-2 * x).toNat

theorem rk_get {K p : Nat} (h : p < 2 * K + 1) : rk ((numsF K).getD p 0) = p := by
  rw [numsF_get h]; unfold rk
  split
  · rw [if_pos (by omega)]; omega
  · rw [if_neg (by omega)]; omega

theorem idx_from {v : Int} : ∀ {l : List Int} {p : Nat} (i : Nat), p < l.length → l.getD p 0 = v → (∀ q, q < p → l.getD q 0 ≠ v) → idxFrom v l i = ((i + p : Nat) : Int)
  | [], p, i, h, _, _ => by simp at h
  | x :: l, 0, i, h, hv, _ => by
    have : x = v := by simpa using hv
    subst this; simp [idxFrom]
  | x :: l, p + 1, i, h, hv, hq => by
    have h0 : x ≠ v := by have := hq 0 (by omega); simpa using this
    rw [idxFrom, if_neg (fun e => h0 e.symm), idx_from (i + 1) (p := p) (by simpa using h) (by simpa using hv) (fun q hlt => by have := hq (q + 1) (by omega); simpa using this)]
    congr 1; omega

theorem idx_nums {K p : Nat} (h : p < 2 * K + 1) : idxF (numsF K) ((numsF K).getD p 0) = (p : Int) := by
  have hl := numsF_len K
  have := idx_from (v := (numsF K).getD p 0) 0 (by omega) rfl (fun q hq e => by
    have h1 := rk_get (K := K) (p := q) (by omega)
    have h2 := rk_get h
    rw [e] at h1; omega)
  rw [Nat.zero_add] at this; exact this

theorem sumBy_take_mono (n K : Nat) (l : List Int) {p q : Nat} (h : p ≤ q) : sumBy n K (l.take p) ≤ sumBy n K (l.take q) := by
  have := sumBy_take_le n K (l.take q) p
  rwa [List.take_take, Nat.min_eq_left h] at this

theorem pick_at {n K : Nat} {l : List Int} {i : Int} {p : Nat} (hp : p < l.length) (h0 : sumBy n K (l.take p) ≤ i) (h1 : i < sumBy n K (l.take (p + 1))) : pickF n K l i 0 = ((p : Int), i - sumBy n K (l.take p)) := by
  have hle := sumBy_take_le n K l (p + 1)
  have hnn := sumBy_nn n K (l.take p)
  obtain ⟨q, q1, q2, q3, q4⟩ := pick_spec n K l i 0 (by omega) (by omega)
  have hs := sumBy_take_succ n K q1
  have : q = p := by
    rcases Nat.lt_trichotomy q p with h | h | h
    · have := sumBy_take_mono n K l (show q + 1 ≤ p by omega); omega
    · exact h
    · have := sumBy_take_mono n K l (show p + 1 ≤ q by omega); omega
  subst this
  rw [q2, Nat.zero_add]

/-- The first number, and what is left behind it. -/
theorem vst_cons (n : Nat) (k i : Int) : ∀ a, vst (n + 1) k i (a + 1) = ((vst n (vst (n + 1) k i 1).1 (vst (n + 1) k i 1).2.1 a).1, (vst n (vst (n + 1) k i 1).1 (vst (n + 1) k i 1).2.1 a).2.1, (vst (n + 1) k i 1).2.2 ++ (vst n (vst (n + 1) k i 1).1 (vst (n + 1) k i 1).2.1 a).2.2)
  | 0 => by
    show vst (n + 1) k i 1 = _
    simp only [vst, List.append_nil]
  | a + 1 => by
    have ih := vst_cons n k i a
    rw [show vst (n + 1) k i (a + 1 + 1) = (fun s : Int × Int × List Int => (s.1 - sz13 ((numsF s.1.toNat).getD (pickF (n + 1 - (a + 1) - 1) s.1.toNat (numsF s.1.toNat) s.2.1 0).1.toNat 0), (pickF (n + 1 - (a + 1) - 1) s.1.toNat (numsF s.1.toNat) s.2.1 0).2, s.2.2 ++ [(numsF s.1.toNat).getD (pickF (n + 1 - (a + 1) - 1) s.1.toNat (numsF s.1.toNat) s.2.1 0).1.toNat 0])) (vst (n + 1) k i (a + 1)) from rfl, ih]
    generalize vst (n + 1) k i 1 = t
    rw [show vst n t.1 t.2.1 (a + 1) = (fun s : Int × Int × List Int => (s.1 - sz13 ((numsF s.1.toNat).getD (pickF (n - a - 1) s.1.toNat (numsF s.1.toNat) s.2.1 0).1.toNat 0), (pickF (n - a - 1) s.1.toNat (numsF s.1.toNat) s.2.1 0).2, s.2.2 ++ [(numsF s.1.toNat).getD (pickF (n - a - 1) s.1.toNat (numsF s.1.toNat) s.2.1 0).1.toNat 0])) (vst n t.1 t.2.1 a) from rfl]
    rw [show n + 1 - (a + 1) - 1 = n - a - 1 by omega]
    simp only [List.append_assoc]

/-- A vector by its first number's place. -/
theorem vst_first {n : Nat} {k i : Int} (_hk0 : 0 ≤ k) (_hk : k ≤ 12) {p : Nat} (hp : p < 2 * k.toNat + 1) (h0 : sumBy n k.toNat ((numsF k.toNat).take p) ≤ i) (h1 : i < sumBy n k.toNat ((numsF k.toNat).take (p + 1))) :
    (vst (n + 1) k i (n + 1)).2.2 = (numsF k.toNat).getD p 0 :: (vst n (k - sz13 ((numsF k.toNat).getD p 0)) (i - sumBy n k.toNat ((numsF k.toNat).take p)) n).2.2 := by
  have hl := numsF_len k.toNat
  have hpk := pick_at (n := n) (K := k.toNat) (l := numsF k.toNat) (by omega) h0 h1
  have e1 : vst (n + 1) k i 1 = (k - sz13 ((numsF k.toNat).getD p 0), i - sumBy n k.toNat ((numsF k.toNat).take p), [(numsF k.toNat).getD p 0]) := by
    simp only [vst, Nat.add_sub_cancel, Nat.sub_zero, hpk, Int.toNat_natCast, List.nil_append]
  rw [vst_cons, e1]; rfl

/-- A vector of a number has that number. -/
theorem vst_num : ∀ {n : Nat} {k i : Int}, n ≤ 8 → 0 ≤ k → k ≤ 12 → 0 ≤ i → i < cnt n k.toNat →
    ((vst n k i n).2.2).length = n ∧ sumSz (vst n k i n).2.2 = k ∧ numF (vst n k i n).2.2 = i
  | 0, k, i, _, hk0, hk, hi, hi2 => by
    have hkz : k.toNat = 0 := by
      cases h : k.toNat with
      | zero => rfl
      | succ m => rw [h] at hi2; simp only [cnt, cnt0] at hi2; omega
    rw [hkz] at hi2
    simp only [cnt, cnt0] at hi2
    refine ⟨rfl, ?_, ?_⟩
    · show (0 : Int) = k; omega
    · show (0 : Int) = i; omega
  | n + 1, k, i, hn, hk0, hk, hi, hi2 => by
    have hl := numsF_len k.toNat
    rw [← sumBy_all (by omega)] at hi2
    obtain ⟨p, p1, p2, p3, p4⟩ := pick_spec n k.toNat (numsF k.toNat) i 0 hi hi2
    have hs := sumBy_take_succ n k.toNat p1
    have hz := sz13_in (by omega) (getD_mem (d := 0) p1)
    have hf := vst_first (n := n) (i := i) hk0 hk (p := p) (by omega) (by omega) (by omega)
    have ez : k.toNat - (sz13 ((numsF k.toNat).getD p 0)).toNat = (k - sz13 ((numsF k.toNat).getD p 0)).toNat := by omega
    rw [ez] at p4
    obtain ⟨q1, q2, q3⟩ := vst_num (n := n) (k := k - sz13 ((numsF k.toNat).getD p 0)) (i := i - sumBy n k.toNat ((numsF k.toNat).take p)) (by omega) (by omega) (by omega) p3 p4
    have hix := idx_nums (K := k.toNat) (p := p) (by omega)
    rw [hf]
    generalize hL : (vst n (k - sz13 ((numsF k.toNat).getD p 0)) (i - sumBy n k.toNat ((numsF k.toNat).take p)) n).2.2 = L at *
    generalize hzz : (numsF k.toNat).getD p 0 = z at *
    have hsum : sumSz (z :: L) = k := by simp only [sumSz]; omega
    refine ⟨by simp [q1], hsum, ?_⟩
    rw [numF, hsum, hix, Int.toNat_natCast, q1, q3]; omega

/-- The vector of a vector's number is that vector. -/
theorem vst_back : ∀ {y : List Int}, y.length ≤ 8 → sumSz y ≤ 12 → (vst y.length (sumSz y) (numF y) y.length).2.2 = y
  | [], _, _ => rfl
  | x :: ys, hn, hk => by
    have h1 := sumSz_le ys
    have h2 := sz13_le x
    have e : sumSz (x :: ys) = sz13 x + sumSz ys := rfl
    obtain ⟨p, p1, p2, p3, p4, p5⟩ := numF_cons hk
    obtain ⟨n0, n1⟩ := numF_lt (y := ys) (by omega)
    have hl := numsF_len (sumSz (x :: ys)).toNat
    have hs := sumBy_take_succ ys.length (sumSz (x :: ys)).toNat p1
    rw [p3, p5] at hs
    have hf := vst_first (n := ys.length) (k := sumSz (x :: ys)) (i := numF (x :: ys)) (by omega) hk (p := p) (by omega) (by omega) (by omega)
    rw [p3] at hf
    rw [List.length_cons, hf]
    have e2 : sumSz (x :: ys) - sz13 x = sumSz ys := by omega
    have e3 : numF (x :: ys) - sumBy ys.length (sumSz (x :: ys)).toNat ((numsF (sumSz (x :: ys)).toNat).take p) = numF ys := by omega
    rw [e2, e3, vst_back (y := ys) (by simp at hn; omega) (by omega)]

/-! ### The functions of the program -/

theorem may_iff {n k : Int} : mayF n k = true ↔ 0 ≤ n ∧ n ≤ 8 ∧ 0 ≤ k ∧ k ≤ 12 := by simp [mayF]

theorem vec_ok {n k i : Int} (hm : 0 ≤ n ∧ n ≤ 8 ∧ 0 ≤ k ∧ k ≤ 12) (hi : 0 ≤ i) (hi2 : i < countF n k) :
    vecE n k i = 0 ∧ ((vecF n k i).length : Int) = n ∧ sumSz (vecF n k i) = k ∧ numF (vecF n k i) = i ∧ pulsesF (vecF n k i) = k ∧ indexF (vecF n k i) = (i, 0) := by
  have hc : countF n k = cnt n.toNat k.toNat := by unfold countF; rw [may_iff.2 hm]; rfl
  have e1 : vecF n k i = (vst n.toNat k i n.toNat).2.2 := by unfold vecF; rw [if_pos ⟨may_iff.2 hm, hi, hi2⟩]
  have e2 : vecE n k i = 0 := by unfold vecE; rw [may_iff.2 hm, if_pos rfl, if_pos ⟨hi, hi2⟩]
  obtain ⟨h1, h2, h3⟩ := vst_num (n := n.toNat) (k := k) (i := i) (by omega) hm.2.2.1 hm.2.2.2 hi (by omega)
  rw [← e1] at h1 h2 h3
  have hp : pulsesF (vecF n k i) = k := by unfold pulsesF; rw [if_neg (by omega)]; omega
  refine ⟨e2, by omega, h2, h3, hp, ?_⟩
  unfold indexF; rw [hp, if_neg (by omega), h3]

theorem index_ok {y : List Int} (h : (indexF y).2 = 0) : y.length ≤ 8 ∧ sumSz y ≤ 12 ∧ pulsesF y = sumSz y ∧ indexF y = (numF y, 0) ∧ 0 ≤ numF y ∧ numF y < countF y.length (sumSz y) ∧ vecF y.length (sumSz y) (numF y) = y := by
  have hp : ¬ 12 < pulsesF y := fun e => by unfold indexF at h; rw [if_pos e] at h; cases h
  have hl : ¬ 8 < y.length := fun e => by apply hp; unfold pulsesF; rw [if_pos e]; decide
  have hps : pulsesF y = min (sumSz y) 13 := by unfold pulsesF; rw [if_neg hl]
  have h0 := sumSz_le y
  have hn := numF_lt (y := y) (by omega)
  have hm : mayF (y.length : Int) (sumSz y) = true := may_iff.2 (by omega)
  have hc : countF y.length (sumSz y) = cnt y.length (sumSz y).toNat := by unfold countF; rw [hm]; rfl
  refine ⟨by omega, by omega, by omega, by unfold indexF; rw [if_neg hp], hn.1, by omega, ?_⟩
  unfold vecF
  rw [if_pos ⟨hm, hn.1, by omega⟩]
  exact vst_back (by omega) (by omega)

end Go.SL.A

/- Plain functions of the document's answer for pvq. -/
namespace Go.SL.S
open Go Go.SL.A
def szR (x : Int) : Int := if x < 0 then IntKind.i64.wrap (0 - x) else x
def g1 (i a j : Nat) : Int := if j < a then cnt (i + 1) j else 0
def ptF (i a x : Nat) : Int := if x = 0 then 0 else cnt i a + 2 * revTo (cnt i) a (x - 1)
def g2 (i a x j : Nat) : Int := if j < a then cnt (i + 1) j else if j = a then ptF i a x else 0
/-- f 0, .. , f (n - 1). -/
def mapR (n : Nat) (f : Nat → Int) : List Int := (List.range n).map f
end Go.SL.S
