/- Part 4 of what the statements of this seat need: a logic of states for the code of the model, the functions that they reach, and what these are held to do: no condition. -/
import Derived.Test.YteahjgigkbkcdaaDoorProg
import Derived.Test.YteahjgigkbkcdaaDoorS01
import Derived.Test.YteahjgigkbkcdaaDoorS02

/- The seat's type tables, for the S-logic; and the one table that never turns. -/
namespace Go.SL.S
def sgL : List Int := [8317987319222330741, 7237128888997146477, 7816392313619706465, 8387220255154660723]
end Go.SL.S
namespace Go.SL.A
open Go Go.SL
instance gtab : GTab := ⟨fun g => bif Nat.beq g 0 then some ⟨.arr 4 (.int .u64), S.sgL⟩ else none⟩

def tyT (t : TypeId) : Option Ty := match Nat.blt t 240 with
  | true => (match Nat.blt t 120 with | true => (match Nat.blt t 60 with | true => (match Nat.blt t 30 with | true => (match Nat.blt t 15 with | true => (match Nat.blt t 7 with | true => (match Nat.blt t 3 with | true => (match Nat.blt t 1 with | true => none | false => (match Nat.blt t 2 with | true => some (.ref .func) | false => some (.int .i64))) | false => (match Nat.blt t 5 with | true => (match Nat.blt t 4 with | true => some (.int .i64) | false => some .bool) | false => (match Nat.blt t 6 with | true => some (.int .u8) | false => some (.int .u8)))) | false => (match Nat.blt t 11 with | true => (match Nat.blt t 9 with | true => (match Nat.blt t 8 with | true => some (.cons (.int .i64) (.cons (.int .i64) (.cons .bool (.last (.int .u8))))) | false => some (.cons (.int .i64) (.cons (.int .i64) (.cons .bool (.last (.int .u8)))))) | false => (match Nat.blt t 10 with | true => some .str | false => some .str)) | false => (match Nat.blt t 13 with | true => (match Nat.blt t 12 with | true => some .str | false => some (.int .u64)) | false => (match Nat.blt t 14 with | true => some (.cons .str (.last (.int .u64))) | false => some (.cons .str (.last (.int .u64))))))) | false => (match Nat.blt t 22 with | true => (match Nat.blt t 18 with | true => (match Nat.blt t 16 with | true => some (.ref .ptr) | false => (match Nat.blt t 17 with | true => some (.ref .ptr) | false => some (.ref .ptr))) | false => (match Nat.blt t 20 with | true => (match Nat.blt t 19 with | true => some (.last (.ref .ptr)) | false => some (.last (.ref .ptr))) | false => (match Nat.blt t 21 with | true => some (.ref .iface) | false => some (.int .i32)))) | false => (match Nat.blt t 26 with | true => (match Nat.blt t 24 with | true => (match Nat.blt t 23 with | true => some (.arr 16 (.int .u8)) | false => some (.arr 16 (.int .u8))) | false => (match Nat.blt t 25 with | true => some (.int .u16) | false => some (.arr 8 (.int .i64)))) | false => (match Nat.blt t 28 with | true => (match Nat.blt t 27 with | true => some (.int .u32) | false => some (.arr 8 (.int .u32))) | false => (match Nat.blt t 29 with | true => some (.ref .func) | false => some (.arr 8 (.int .i64))))))) | false => (match Nat.blt t 45 with | true => (match Nat.blt t 37 with | true => (match Nat.blt t 33 with | true => (match Nat.blt t 31 with | true => some (.arr 4 (.int .i64)) | false => (match Nat.blt t 32 with | true => some (.arr 4 (.int .i64)) | false => some (.arr 8 (.arr 4 (.int .i64))))) | false => (match Nat.blt t 35 with | true => (match Nat.blt t 34 with | true => some (.cons (.arr 8 (.int .i64)) (.last (.arr 8 (.arr 4 (.int .i64))))) | false => some (.cons (.arr 8 (.int .i64)) (.last (.arr 8 (.arr 4 (.int .i64)))))) | false => (match Nat.blt t 36 with | true => some (.ref .func) | false => some (.cons (.int .i64) (.last (.cons (.arr 8 (.int .i64)) (.last (.arr 8 (.arr 4 (.int .i64)))))))))) | false => (match Nat.blt t 41 with | true => (match Nat.blt t 39 with | true => (match Nat.blt t 38 with | true => some (.cons (.int .i64) (.last (.cons (.arr 8 (.int .i64)) (.last (.arr 8 (.arr 4 (.int .i64))))))) | false => some (.cons (.int .i64) (.cons (.int .i64) (.cons (.int .i64) (.last (.int .i64)))))) | false => (match Nat.blt t 40 with | true => some (.cons (.int .i64) (.cons (.int .i64) (.cons (.int .i64) (.last (.int .i64))))) | false => some (.ref .func))) | false => (match Nat.blt t 43 with | true => (match Nat.blt t 42 with | true => some (.ref .func) | false => some (.ref .func)) | false => (match Nat.blt t 44 with | true => some (.arr 7 (.int .i64)) | false => some (.ref .func))))) | false => (match Nat.blt t 52 with | true => (match Nat.blt t 48 with | true => (match Nat.blt t 46 with | true => some (.ref .func) | false => (match Nat.blt t 47 with | true => some (.ref .func) | false => some (.ref .func))) | false => (match Nat.blt t 50 with | true => (match Nat.blt t 49 with | true => some (.ref .slice) | false => some (.arr 127 .bool)) | false => (match Nat.blt t 51 with | true => some (.ref .func) | false => some (.ref .slice)))) | false => (match Nat.blt t 56 with | true => (match Nat.blt t 54 with | true => (match Nat.blt t 53 with | true => some (.arr 127 (.int .i64)) | false => some (.ref .slice)) | false => (match Nat.blt t 55 with | true => some (.ref .func) | false => some (.int .i64))) | false => (match Nat.blt t 58 with | true => (match Nat.blt t 57 with | true => none | false => some (.ref .func)) | false => (match Nat.blt t 59 with | true => some (.ref .func) | false => some (.ref .func))))))) | false => (match Nat.blt t 90 with | true => (match Nat.blt t 75 with | true => (match Nat.blt t 67 with | true => (match Nat.blt t 63 with | true => (match Nat.blt t 61 with | true => some (.arr 127 .bool) | false => (match Nat.blt t 62 with | true => none | false => some (.ref .func))) | false => (match Nat.blt t 65 with | true => (match Nat.blt t 64 with | true => some (.ref .func) | false => some (.ref .func)) | false => (match Nat.blt t 66 with | true => some (.ref .func) | false => some (.ref .func)))) | false => (match Nat.blt t 71 with | true => (match Nat.blt t 69 with | true => (match Nat.blt t 68 with | true => some (.ref .slice) | false => some (.ref .func)) | false => (match Nat.blt t 70 with | true => some (.ref .func) | false => some (.cons (.int .i64) (.last (.int .i64))))) | false => (match Nat.blt t 73 with | true => (match Nat.blt t 72 with | true => some (.cons (.int .i64) (.last (.int .i64))) | false => some (.ref .func)) | false => (match Nat.blt t 74 with | true => some (.ref .func) | false => some (.arr 32 (.int .i64)))))) | false => (match Nat.blt t 82 with | true => (match Nat.blt t 78 with | true => (match Nat.blt t 76 with | true => some (.arr 32 (.int .i64)) | false => (match Nat.blt t 77 with | true => some (.ref .func) | false => some (.ref .slice))) | false => (match Nat.blt t 80 with | true => (match Nat.blt t 79 with | true => some (.ref .func) | false => some (.ref .func)) | false => (match Nat.blt t 81 with | true => some (.ref .func) | false => some (.ref .slice)))) | false => (match Nat.blt t 86 with | true => (match Nat.blt t 84 with | true => (match Nat.blt t 83 with | true => some (.ref .func) | false => none) | false => (match Nat.blt t 85 with | true => some (.ref .func) | false => some (.ref .func))) | false => (match Nat.blt t 88 with | true => (match Nat.blt t 87 with | true => some (.ref .func) | false => some (.ref .func)) | false => (match Nat.blt t 89 with | true => some (.ref .func) | false => none))))) | false => (match Nat.blt t 105 with | true => (match Nat.blt t 97 with | true => (match Nat.blt t 93 with | true => (match Nat.blt t 91 with | true => some (.ref .func) | false => (match Nat.blt t 92 with | true => some (.arr 2 (.int .i64)) | false => some (.arr 2 (.arr 2 (.int .i64))))) | false => (match Nat.blt t 95 with | true => (match Nat.blt t 94 with | true => some (.cons (.int .i64) (.last (.int .i64))) | false => some (.cons (.int .i64) (.last (.int .i64)))) | false => (match Nat.blt t 96 with | true => some (.arr 6 (.cons (.int .i64) (.last (.int .i64)))) | false => some (.ref .func)))) | false => (match Nat.blt t 101 with | true => (match Nat.blt t 99 with | true => (match Nat.blt t 98 with | true => none | false => some (.ref .func)) | false => (match Nat.blt t 100 with | true => some (.ref .func) | false => some (.ref .func))) | false => (match Nat.blt t 103 with | true => (match Nat.blt t 102 with | true => some (.ref .func) | false => some (.int .u64)) | false => (match Nat.blt t 104 with | true => some (.ref .slice) | false => some (.ref .func))))) | false => (match Nat.blt t 112 with | true => (match Nat.blt t 108 with | true => (match Nat.blt t 106 with | true => some (.int .u64) | false => (match Nat.blt t 107 with | true => some (.ref .func) | false => some (.ref .func))) | false => (match Nat.blt t 110 with | true => (match Nat.blt t 109 with | true => some (.ref .func) | false => some (.ref .func)) | false => (match Nat.blt t 111 with | true => some (.ref .func) | false => some (.ref .func)))) | false => (match Nat.blt t 116 with | true => (match Nat.blt t 114 with | true => (match Nat.blt t 113 with | true => some (.ref .func) | false => some (.ref .func)) | false => (match Nat.blt t 115 with | true => some (.ref .func) | false => some (.ref .func))) | false => (match Nat.blt t 118 with | true => (match Nat.blt t 117 with | true => none | false => some (.ref .func)) | false => (match Nat.blt t 119 with | true => some (.ref .func) | false => some (.ref .func)))))))) | false => (match Nat.blt t 180 with | true => (match Nat.blt t 150 with | true => (match Nat.blt t 135 with | true => (match Nat.blt t 127 with | true => (match Nat.blt t 123 with | true => (match Nat.blt t 121 with | true => some (.ref .func) | false => (match Nat.blt t 122 with | true => some (.ref .func) | false => some (.ref .func))) | false => (match Nat.blt t 125 with | true => (match Nat.blt t 124 with | true => some (.ref .func) | false => none) | false => (match Nat.blt t 126 with | true => some (.ref .func) | false => some (.ref .func)))) | false => (match Nat.blt t 131 with | true => (match Nat.blt t 129 with | true => (match Nat.blt t 128 with | true => none | false => some (.ref .func)) | false => (match Nat.blt t 130 with | true => some (.ref .func) | false => some (.arr 13 (.int .i64)))) | false => (match Nat.blt t 133 with | true => (match Nat.blt t 132 with | true => some (.ref .func) | false => some (.ref .ptr)) | false => (match Nat.blt t 134 with | true => some (.ref .func) | false => some (.ref .func))))) | false => (match Nat.blt t 142 with | true => (match Nat.blt t 138 with | true => (match Nat.blt t 136 with | true => some (.ref .func) | false => (match Nat.blt t 137 with | true => some (.ref .func) | false => some (.arr 4 .bool))) | false => (match Nat.blt t 140 with | true => (match Nat.blt t 139 with | true => some (.ref .func) | false => some (.ref .func)) | false => (match Nat.blt t 141 with | true => some (.ref .slice) | false => some (.ref .func)))) | false => (match Nat.blt t 146 with | true => (match Nat.blt t 144 with | true => (match Nat.blt t 143 with | true => some (.ref .func) | false => some (.ref .func)) | false => (match Nat.blt t 145 with | true => some (.arr 4 (.int .u64)) | false => some (.arr 4 (.int .u64)))) | false => (match Nat.blt t 148 with | true => (match Nat.blt t 147 with | true => some (.ref .slice) | false => some (.ref .func)) | false => (match Nat.blt t 149 with | true => some (.ref .func) | false => some (.ref .func)))))) | false => (match Nat.blt t 165 with | true => (match Nat.blt t 157 with | true => (match Nat.blt t 153 with | true => (match Nat.blt t 151 with | true => some (.ref .func) | false => (match Nat.blt t 152 with | true => some (.ref .func) | false => some (.ref .map))) | false => (match Nat.blt t 155 with | true => (match Nat.blt t 154 with | true => some (.ref .func) | false => some (.ref .func)) | false => (match Nat.blt t 156 with | true => some (.ref .func) | false => some (.ref .func)))) | false => (match Nat.blt t 161 with | true => (match Nat.blt t 159 with | true => (match Nat.blt t 158 with | true => some (.ref .ptr) | false => some (.ref .func)) | false => (match Nat.blt t 160 with | true => some (.ref .slice) | false => some (.cons (.ref .slice) (.last (.ref .func))))) | false => (match Nat.blt t 163 with | true => (match Nat.blt t 162 with | true => some (.cons (.ref .slice) (.last (.ref .func))) | false => some (.ref .func)) | false => (match Nat.blt t 164 with | true => some (.cons (.int .i64) (.last (.int .i64))) | false => some (.cons (.int .i64) (.last (.int .i64))))))) | false => (match Nat.blt t 172 with | true => (match Nat.blt t 168 with | true => (match Nat.blt t 166 with | true => some (.ref .func) | false => (match Nat.blt t 167 with | true => some (.ref .func) | false => none)) | false => (match Nat.blt t 170 with | true => (match Nat.blt t 169 with | true => some (.ref .func) | false => some (.ref .func)) | false => (match Nat.blt t 171 with | true => some (.arr 16 (.arr 2 (.int .i64))) | false => some (.arr 16 (.arr 2 (.int .i64)))))) | false => (match Nat.blt t 176 with | true => (match Nat.blt t 174 with | true => (match Nat.blt t 173 with | true => some (.ref .func) | false => some (.ref .func)) | false => (match Nat.blt t 175 with | true => some (.ref .func) | false => some (.ref .func))) | false => (match Nat.blt t 178 with | true => (match Nat.blt t 177 with | true => some (.ref .ptr) | false => some (.ref .func)) | false => (match Nat.blt t 179 with | true => none | false => some (.ref .func))))))) | false => (match Nat.blt t 210 with | true => (match Nat.blt t 195 with | true => (match Nat.blt t 187 with | true => (match Nat.blt t 183 with | true => (match Nat.blt t 181 with | true => some (.ref .func) | false => (match Nat.blt t 182 with | true => some (.ref .func) | false => some (.ref .func))) | false => (match Nat.blt t 185 with | true => (match Nat.blt t 184 with | true => some (.arr 9 (.arr 13 (.int .i64))) | false => some (.arr 9 (.arr 13 (.int .i64)))) | false => (match Nat.blt t 186 with | true => some (.ref .func) | false => some (.ref .func)))) | false => (match Nat.blt t 191 with | true => (match Nat.blt t 189 with | true => (match Nat.blt t 188 with | true => some (.ref .ptr) | false => some (.ref .func)) | false => (match Nat.blt t 190 with | true => some (.arr 128 .bool) | false => some (.ref .func))) | false => (match Nat.blt t 193 with | true => (match Nat.blt t 192 with | true => some (.ref .func) | false => some (.ref .func)) | false => (match Nat.blt t 194 with | true => some (.ref .iface) | false => some (.ref .iface))))) | false => (match Nat.blt t 202 with | true => (match Nat.blt t 198 with | true => (match Nat.blt t 196 with | true => some (.ref .func) | false => (match Nat.blt t 197 with | true => some (.ref .func) | false => some (.ref .func))) | false => (match Nat.blt t 200 with | true => (match Nat.blt t 199 with | true => some (.ref .func) | false => some (.ref .func)) | false => (match Nat.blt t 201 with | true => some (.ref .func) | false => some (.ref .func)))) | false => (match Nat.blt t 206 with | true => (match Nat.blt t 204 with | true => (match Nat.blt t 203 with | true => some (.ref .func) | false => some (.ref .ptr)) | false => (match Nat.blt t 205 with | true => some (.ref .func) | false => some (.ref .ptr))) | false => (match Nat.blt t 208 with | true => (match Nat.blt t 207 with | true => some (.cons (.ref .ptr) (.cons (.ref .slice) (.cons (.ref .slice) (.cons (.ref .slice) (.cons (.int .i64) (.cons (.int .i64) (.last (.int .i64)))))))) | false => some (.cons (.ref .ptr) (.cons (.ref .slice) (.cons (.ref .slice) (.cons (.ref .slice) (.cons (.int .i64) (.cons (.int .i64) (.last (.int .i64))))))))) | false => (match Nat.blt t 209 with | true => some (.ref .func) | false => some (.ref .func)))))) | false => (match Nat.blt t 225 with | true => (match Nat.blt t 217 with | true => (match Nat.blt t 213 with | true => (match Nat.blt t 211 with | true => some (.ref .func) | false => (match Nat.blt t 212 with | true => some (.ref .func) | false => some (.ref .func))) | false => (match Nat.blt t 215 with | true => (match Nat.blt t 214 with | true => some (.ref .func) | false => some (.ref .func)) | false => (match Nat.blt t 216 with | true => some (.ref .ptr) | false => some (.cons (.int .i64) (.cons (.int .i64) (.cons (.int .i64) (.last (.int .i64)))))))) | false => (match Nat.blt t 221 with | true => (match Nat.blt t 219 with | true => (match Nat.blt t 218 with | true => some (.cons (.int .i64) (.cons (.int .i64) (.cons (.int .i64) (.last (.int .i64))))) | false => some (.arr 128 (.int .i64))) | false => (match Nat.blt t 220 with | true => some (.cons (.arr 127 (.int .i64)) (.last (.arr 128 (.int .i64)))) | false => some (.cons (.arr 127 (.int .i64)) (.last (.arr 128 (.int .i64)))))) | false => (match Nat.blt t 223 with | true => (match Nat.blt t 222 with | true => some (.ref .func) | false => some (.ref .func)) | false => (match Nat.blt t 224 with | true => some (.arr 7 (.arr 2 (.int .i64))) | false => some (.ref .func))))) | false => (match Nat.blt t 232 with | true => (match Nat.blt t 228 with | true => (match Nat.blt t 226 with | true => some (.ref .func) | false => (match Nat.blt t 227 with | true => some (.cons (.ref .ptr) (.cons (.ref .ptr) (.cons (.ref .ptr) (.last .str)))) | false => some (.cons (.ref .ptr) (.cons (.ref .ptr) (.cons (.ref .ptr) (.last .str)))))) | false => (match Nat.blt t 230 with | true => (match Nat.blt t 229 with | true => some (.arr 0 (.ref .ptr)) | false => some (.last (.arr 0 (.ref .ptr)))) | false => (match Nat.blt t 231 with | true => some (.last (.arr 0 (.ref .ptr))) | false => some (.int .u8)))) | false => (match Nat.blt t 236 with | true => (match Nat.blt t 234 with | true => (match Nat.blt t 233 with | true => some (.int .u8) | false => some (.ref .func)) | false => (match Nat.blt t 235 with | true => some (.ref .ptr) | false => some (.int .i32))) | false => (match Nat.blt t 238 with | true => (match Nat.blt t 237 with | true => some (.int .i32) | false => some (.cons (.int .u64) (.cons (.int .u64) (.cons (.int .u32) (.cons (.int .u8) (.cons (.int .u8) (.cons (.int .u8) (.cons (.int .u8) (.cons (.ref .func) (.cons (.ref .ptr) (.cons (.int .i32) (.last (.int .i32))))))))))))) | false => (match Nat.blt t 239 with | true => some (.cons (.int .u64) (.cons (.int .u64) (.cons (.int .u32) (.cons (.int .u8) (.cons (.int .u8) (.cons (.int .u8) (.cons (.int .u8) (.cons (.ref .func) (.cons (.ref .ptr) (.cons (.int .i32) (.last (.int .i32)))))))))))) | false => none))))))))
  | false => none

def slT (t : TypeId) : Option TypeId := match Nat.blt t 240 with
  | true => (match Nat.blt t 120 with | true => (match Nat.blt t 60 with | true => (match Nat.blt t 30 with | true => none | false => (match Nat.blt t 45 with | true => none | false => (match Nat.blt t 52 with | true => (match Nat.blt t 48 with | true => none | false => (match Nat.blt t 50 with | true => (match Nat.blt t 49 with | true => some 24 | false => none) | false => (match Nat.blt t 51 with | true => none | false => some 37))) | false => (match Nat.blt t 56 with | true => (match Nat.blt t 54 with | true => (match Nat.blt t 53 with | true => none | false => some 4) | false => none) | false => none)))) | false => (match Nat.blt t 90 with | true => (match Nat.blt t 75 with | true => (match Nat.blt t 67 with | true => none | false => (match Nat.blt t 71 with | true => (match Nat.blt t 69 with | true => (match Nat.blt t 68 with | true => some 71 | false => none) | false => none) | false => none)) | false => (match Nat.blt t 82 with | true => (match Nat.blt t 78 with | true => (match Nat.blt t 76 with | true => none | false => (match Nat.blt t 77 with | true => none | false => some 75)) | false => (match Nat.blt t 80 with | true => none | false => (match Nat.blt t 81 with | true => none | false => some 3))) | false => none)) | false => (match Nat.blt t 105 with | true => (match Nat.blt t 97 with | true => none | false => (match Nat.blt t 101 with | true => none | false => (match Nat.blt t 103 with | true => none | false => (match Nat.blt t 104 with | true => some 5 | false => none)))) | false => none))) | false => (match Nat.blt t 180 with | true => (match Nat.blt t 150 with | true => (match Nat.blt t 135 with | true => none | false => (match Nat.blt t 142 with | true => (match Nat.blt t 138 with | true => none | false => (match Nat.blt t 140 with | true => none | false => (match Nat.blt t 141 with | true => some 31 | false => none))) | false => (match Nat.blt t 146 with | true => none | false => (match Nat.blt t 148 with | true => (match Nat.blt t 147 with | true => some 105 | false => none) | false => none)))) | false => (match Nat.blt t 165 with | true => (match Nat.blt t 157 with | true => none | false => (match Nat.blt t 161 with | true => (match Nat.blt t 159 with | true => none | false => (match Nat.blt t 160 with | true => some 164 | false => none)) | false => none)) | false => none)) | false => none))
  | false => none

def byT (t : TypeId) : Nat := match Nat.blt t 240 with
  | true => (match Nat.blt t 120 with | true => (match Nat.blt t 60 with | true => (match Nat.blt t 30 with | true => (match Nat.blt t 15 with | true => (match Nat.blt t 7 with | true => (match Nat.blt t 3 with | true => 0 | false => (match Nat.blt t 5 with | true => (match Nat.blt t 4 with | true => 8 | false => 1) | false => (match Nat.blt t 6 with | true => 1 | false => 0))) | false => 0) | false => (match Nat.blt t 22 with | true => 0 | false => (match Nat.blt t 26 with | true => (match Nat.blt t 24 with | true => 0 | false => (match Nat.blt t 25 with | true => 2 | false => 0)) | false => 0))) | false => (match Nat.blt t 45 with | true => (match Nat.blt t 37 with | true => (match Nat.blt t 33 with | true => (match Nat.blt t 31 with | true => 0 | false => (match Nat.blt t 32 with | true => 32 | false => 0)) | false => 0) | false => (match Nat.blt t 41 with | true => (match Nat.blt t 39 with | true => (match Nat.blt t 38 with | true => 328 | false => 0) | false => 0) | false => 0)) | false => 0)) | false => (match Nat.blt t 90 with | true => (match Nat.blt t 75 with | true => (match Nat.blt t 67 with | true => 0 | false => (match Nat.blt t 71 with | true => 0 | false => (match Nat.blt t 73 with | true => (match Nat.blt t 72 with | true => 16 | false => 0) | false => 0))) | false => (match Nat.blt t 82 with | true => (match Nat.blt t 78 with | true => (match Nat.blt t 76 with | true => 256 | false => 0) | false => 0) | false => 0)) | false => (match Nat.blt t 105 with | true => 0 | false => (match Nat.blt t 112 with | true => (match Nat.blt t 108 with | true => (match Nat.blt t 106 with | true => 8 | false => 0) | false => 0) | false => 0)))) | false => (match Nat.blt t 180 with | true => (match Nat.blt t 150 with | true => 0 | false => (match Nat.blt t 165 with | true => (match Nat.blt t 157 with | true => 0 | false => (match Nat.blt t 161 with | true => 0 | false => (match Nat.blt t 163 with | true => 0 | false => (match Nat.blt t 164 with | true => 0 | false => 16)))) | false => 0)) | false => 0))
  | false => 0

def eqT0 (t : TypeId) : Bool := match Nat.blt t 240 with
  | true => (match Nat.blt t 120 with | true => (match Nat.blt t 60 with | true => (match Nat.blt t 30 with | true => (match Nat.blt t 15 with | true => (match Nat.blt t 7 with | true => false | false => (match Nat.blt t 11 with | true => (match Nat.blt t 9 with | true => (match Nat.blt t 8 with | true => true | false => true) | false => false) | false => false)) | false => (match Nat.blt t 22 with | true => false | false => (match Nat.blt t 26 with | true => (match Nat.blt t 24 with | true => (match Nat.blt t 23 with | true => true | false => true) | false => (match Nat.blt t 25 with | true => false | false => true)) | false => (match Nat.blt t 28 with | true => (match Nat.blt t 27 with | true => false | false => true) | false => (match Nat.blt t 29 with | true => false | false => true))))) | false => (match Nat.blt t 45 with | true => (match Nat.blt t 37 with | true => (match Nat.blt t 33 with | true => (match Nat.blt t 31 with | true => true | false => (match Nat.blt t 32 with | true => true | false => true)) | false => (match Nat.blt t 35 with | true => (match Nat.blt t 34 with | true => true | false => true) | false => (match Nat.blt t 36 with | true => false | false => true))) | false => (match Nat.blt t 41 with | true => (match Nat.blt t 39 with | true => (match Nat.blt t 38 with | true => true | false => true) | false => (match Nat.blt t 40 with | true => true | false => false)) | false => (match Nat.blt t 43 with | true => false | false => (match Nat.blt t 44 with | true => true | false => false)))) | false => (match Nat.blt t 52 with | true => (match Nat.blt t 48 with | true => false | false => (match Nat.blt t 50 with | true => (match Nat.blt t 49 with | true => false | false => true) | false => false)) | false => (match Nat.blt t 56 with | true => (match Nat.blt t 54 with | true => (match Nat.blt t 53 with | true => true | false => false) | false => false) | false => false)))) | false => (match Nat.blt t 90 with | true => (match Nat.blt t 75 with | true => (match Nat.blt t 67 with | true => (match Nat.blt t 63 with | true => (match Nat.blt t 61 with | true => true | false => false) | false => false) | false => (match Nat.blt t 71 with | true => (match Nat.blt t 69 with | true => false | false => (match Nat.blt t 70 with | true => false | false => true)) | false => (match Nat.blt t 73 with | true => (match Nat.blt t 72 with | true => true | false => false) | false => (match Nat.blt t 74 with | true => false | false => true)))) | false => (match Nat.blt t 82 with | true => (match Nat.blt t 78 with | true => (match Nat.blt t 76 with | true => true | false => false) | false => false) | false => false)) | false => (match Nat.blt t 105 with | true => (match Nat.blt t 97 with | true => (match Nat.blt t 93 with | true => (match Nat.blt t 91 with | true => false | false => (match Nat.blt t 92 with | true => true | false => true)) | false => (match Nat.blt t 95 with | true => (match Nat.blt t 94 with | true => true | false => true) | false => (match Nat.blt t 96 with | true => true | false => false))) | false => false) | false => false))) | false => (match Nat.blt t 180 with | true => (match Nat.blt t 150 with | true => (match Nat.blt t 135 with | true => (match Nat.blt t 127 with | true => false | false => (match Nat.blt t 131 with | true => (match Nat.blt t 129 with | true => false | false => (match Nat.blt t 130 with | true => false | false => true)) | false => false)) | false => (match Nat.blt t 142 with | true => (match Nat.blt t 138 with | true => (match Nat.blt t 136 with | true => false | false => (match Nat.blt t 137 with | true => false | false => true)) | false => false) | false => (match Nat.blt t 146 with | true => (match Nat.blt t 144 with | true => false | false => (match Nat.blt t 145 with | true => true | false => true)) | false => false))) | false => (match Nat.blt t 165 with | true => (match Nat.blt t 157 with | true => false | false => (match Nat.blt t 161 with | true => false | false => (match Nat.blt t 163 with | true => false | false => (match Nat.blt t 164 with | true => true | false => true)))) | false => (match Nat.blt t 172 with | true => (match Nat.blt t 168 with | true => false | false => (match Nat.blt t 170 with | true => false | false => (match Nat.blt t 171 with | true => true | false => true))) | false => false))) | false => (match Nat.blt t 210 with | true => (match Nat.blt t 195 with | true => (match Nat.blt t 187 with | true => (match Nat.blt t 183 with | true => false | false => (match Nat.blt t 185 with | true => (match Nat.blt t 184 with | true => true | false => true) | false => false)) | false => (match Nat.blt t 191 with | true => (match Nat.blt t 189 with | true => false | false => (match Nat.blt t 190 with | true => true | false => false)) | false => false)) | false => false) | false => (match Nat.blt t 225 with | true => (match Nat.blt t 217 with | true => (match Nat.blt t 213 with | true => false | false => (match Nat.blt t 215 with | true => false | false => (match Nat.blt t 216 with | true => false | false => true))) | false => (match Nat.blt t 221 with | true => (match Nat.blt t 219 with | true => (match Nat.blt t 218 with | true => true | false => true) | false => (match Nat.blt t 220 with | true => true | false => true)) | false => (match Nat.blt t 223 with | true => false | false => (match Nat.blt t 224 with | true => true | false => false)))) | false => false))))
  | false => false

def mpT (t : TypeId) : Option (TypeId × TypeId) := match Nat.blt t 240 with
  | true => (match Nat.blt t 120 with | true => none | false => (match Nat.blt t 180 with | true => (match Nat.blt t 150 with | true => none | false => (match Nat.blt t 165 with | true => (match Nat.blt t 157 with | true => (match Nat.blt t 153 with | true => (match Nat.blt t 151 with | true => none | false => (match Nat.blt t 152 with | true => none | false => some (3, 4))) | false => none) | false => none) | false => none)) | false => none))
  | false => none

def D : TI := ⟨tyT, slT, byT, eqT0, mpT⟩
end Go.SL.A

/- The seat's type tables fit the program. -/
namespace Go.SL.A
open Go Go.SL

theorem beyond {t : TypeId} (h : ¬ t < 240) : tyT t = none ∧ slT t = none ∧ eqT0 t = false ∧ mpT t = none := by
  have : Nat.blt t 240 = false := by
    cases hb : Nat.blt t 240 with
    | false => rfl
    | true => exact absurd (Nat.le_of_ble_eq_true hb) h
  refine ⟨?_, ?_, ?_, ?_⟩
  · unfold tyT; rw [this]
  · unfold slT; rw [this]
  · unfold eqT0; rw [this]
  · unfold mpT; rw [this]

theorem tyAll : ((List.range 240).all fun T => chkTy Go.Proofs.Tryd.prog D T) = true := by kernel_rfl
theorem slAll : ((List.range 240).all fun T => chkSl Go.Proofs.Tryd.prog D T) = true := by kernel_rfl
theorem eqAll : ((List.range 240).all fun T => chkEq Go.Proofs.Tryd.prog D T) = true := by kernel_rfl

theorem mpAll : ((List.range 240).all fun T => chkMp Go.Proofs.Tryd.prog D T) = true := by kernel_rfl

theorem good : Good Go.Proofs.Tryd.prog D where
  ty := fun T => by
    by_cases h : T < 240
    · exact List.all_eq_true.1 tyAll T (List.mem_range.2 h)
    · unfold chkTy; rw [show D.ty T = none from (beyond h).1]
  sl := fun T => by
    by_cases h : T < 240
    · exact List.all_eq_true.1 slAll T (List.mem_range.2 h)
    · unfold chkSl; rw [show D.sl T = none from (beyond h).2.1]
  eq := fun T => by
    by_cases h : T < 240
    · exact List.all_eq_true.1 eqAll T (List.mem_range.2 h)
    · unfold chkEq; rw [show D.eqok T = false from (beyond h).2.2.1]; rfl
  mp := fun T => by
    by_cases h : T < 240
    · exact List.all_eq_true.1 mpAll T (List.mem_range.2 h)
    · unfold chkMp; rw [show D.mp T = none from (beyond h).2.2.2]

theorem mix : Go.Proofs.Tryd.prog.follows .mixedOrders = true := by kernel_rfl

end Go.SL.A

/- No function is held to anything yet; steps of counts. -/
namespace Go.SL.S
def findIx (p : Int → Bool) : List Int → Nat → Int
  | [], _ => -1
  | x :: l, i => if p x then (i : Int) else findIx p l (i + 1)
end Go.SL.S
namespace Go.SL.A
open Go Go.SL Go.SL.S
def G00 : FuncId → Option Spec := fun _ => none
theorem snd00 : Sound Go.Proofs.Tryd.prog G00 := Sound.none
theorem step_i {i : Nat} (h : i < 1000000) : IntKind.i64.wrap ((i : Int) + 1) = ((i + 1 : Nat) : Int) := by rw [w64 (by omega) (by omega)]; simp
theorem findIx_sign (p : Int → Bool) : ∀ (l : List Int) (i : Nat), decide (0 ≤ findIx p l i) = l.any p
  | [], i => by simp [findIx]
  | x :: l, i => by
    rw [findIx, List.any_cons]
    cases h : p x with
    | true => simp
    | false => simp [findIx_sign p l (i + 1)]
theorem take_snoc' {α : Type} {l : List α} {k : Nat} (d : α) (h : k < l.length) : l.take (k + 1) = l.take k ++ [l.getD k d] := by
  rw [List.take_add_one]; simp [h]
end Go.SL.A

/- The keyed sum of bytes: plain functions. -/
namespace Go.SL.S
open Go Go.SL
def turnI (x n : Int) : Int := ior .u64 (ishl .u64 x (n % 64)) (ishr .u64 x (64 - n % 64))
def mixA (v : List Int) (a b : Nat) : List Int := List.set v a (IntKind.u64.wrap (List.getD v a 0 + List.getD v b 0))
def mixB (v : List Int) (a b : Nat) (n : Int) : List Int := List.set v b (ixor .u64 (turnI (List.getD v b 0) n) (List.getD v a 0))
def mixF (v : List Int) (a b : Nat) (n : Int) : List Int := mixB (mixA v a b) a b n
def turnAt (v : List Int) (a : Nat) : List Int := List.set v a (turnI (List.getD v a 0) 32)
def rndF (v : List Int) : List Int := turnAt (mixF (mixF (mixF (turnAt (mixF v 0 1 13) 0) 2 3 16) 0 3 21) 2 1 17) 2
def rndN (v : List Int) : Nat → List Int
  | 0 => v
  | n + 1 => rndF (rndN v n)
def numTo (s : ByteArray) (at' : Nat) : Nat → Int
  | 0 => 0
  | n + 1 => numTo s at' n + byteAt s (at' + n) * 256 ^ n
def wordS (s : ByteArray) (at' : Nat) : Int := numTo s at' 8
def wordsTo (s : ByteArray) (n : Nat) : List Int := (List.range n).map fun i => wordS s (8 * i)
def lastW (s : ByteArray) : Int := wordS s (8 * (ByteArray.size s / 8)) + ((ByteArray.size s % 256 : Nat) : Int) * 72057594037927936
def wordsF (s : ByteArray) : List Int := wordsTo s (ByteArray.size s / 8) ++ [lastW s]
def initS (k : List Int) : List Int :=
  [ixor .u64 (wordS (bytesOf k) 0) 8317987319222330741, ixor .u64 (wordS (bytesOf k) 8) 7237128888997146477, ixor .u64 (wordS (bytesOf k) 0) 7816392313619706465, ixor .u64 (wordS (bytesOf k) 8) 8387220255154660723]
def takeA (v : List Int) (w : Int) : List Int := List.set v 3 (ixor .u64 (List.getD v 3 0) w)
def takeB (v : List Int) (w : Int) : List Int := List.set v 0 (ixor .u64 (List.getD v 0 0) w)
def takeW (v : List Int) (w : Int) : List Int := takeB (rndN (takeA v w) 2) w
def endA (v : List Int) : List Int := List.set v 2 (ixor .u64 (List.getD v 2 0) 255)
def sumV (v : List Int) : Int := ixor .u64 (ixor .u64 (ixor .u64 (List.getD v 0 0) (List.getD v 1 0)) (List.getD v 2 0)) (List.getD v 3 0)
def sipS (k : List Int) (s : ByteArray) (n : Nat) : List Int := ((wordsF s).take n).foldl takeW (initS k)
def sipF (k : List Int) (s : ByteArray) : Int := sumV (rndN (endA ((wordsF s).foldl takeW (initS k))) 4)
def rot1 (x : Int) : Int := IntKind.u64.wrap (2 * x) + (if 9223372036854775808 ≤ x then 1 else 0)
def leftTo (x : Int) : Nat → Int
  | 0 => x
  | n + 1 => rot1 (leftTo x n)
end Go.SL.S

/- Functions and what they are held to do: bound to their code. -/
namespace Go.SL.A
open Go Go.SL Go.SL.S
set_option maxRecDepth 100000
noncomputable def Cd124 : Ctx := ⟨Go.Proofs.Tryd.prog, D, G00, (fun _ _ => none), fun _ => []⟩
def annd124 (_x _n : Int) : Nat → St → Option Ann := fun _ _ => none
def outd124 (x n : Int) : COut := ⟨[], .v (.int .u64) (turnI x n), [], []⟩
def spd124 : Spec := fun args ins => match args, ins with
  | [⟨.int .u64, x⟩, ⟨.int .i64, n⟩], [] => some (outd124 x n)
  | _, _ => none
def Gd124 := addG G00 127 spd124
def Pd124 (x n : Int) : Prop :=
 ((64:Int)≠0∧(64:Int)≠0)∧(0≤Int.tmod (IntKind.wrap .i64 (Int.tmod n (64:Int)+64)) (64:Int)∧0≤IntKind.wrap .i64 (64 - Int.tmod (IntKind.wrap .i64 (Int.tmod n (64:Int)+64)) (64:Int)))∧ior .u64 (ishl .u64 x (Int.tmod (IntKind.wrap .i64
 (Int.tmod n (64:Int)+64)) (64:Int))) (ishr .u64 x (IntKind.wrap .i64 (64 - Int.tmod (IntKind.wrap .i64 (Int.tmod n (64:Int)+64)) (64:Int))))=turnI x n
theorem vcd124 (x n : Int) : Pd124 x n = vcFun Cd124 (annd124 x n) Go.Proofs.Tryd.f127 [⟨.int .u64, x⟩, ⟨.int .i64, n⟩] [] (outd124 x n) := by kernel_rfl

noncomputable def Cd123 : Ctx := ⟨Go.Proofs.Tryd.prog, D, Gd124, (fun _ _ => none), fun _ => []⟩
def annd123 (_v : List Int) (_a _b _n : Int) : Nat → St → Option Ann := fun _ _ => none
def outd123 (v : List Int) (a b n : Int) : COut := ⟨[0 ≤ a ∧ a < 4 ∧ 0 ≤ b ∧ b < 4], .tup [], [(0, some ⟨false, true, .arr 4 (.int .u64), [mixF v a.toNat b.toNat n]⟩)], []⟩
def spd123 : Spec := fun args ins => match args, ins with
  | [⟨.ref .ptr, .ptr 0 (.arr 4 (.int .u64)) [0]⟩, ⟨.int .i64, a⟩, ⟨.int .i64, b⟩, ⟨.int .i64, n⟩], [⟨false, true, .arr 4 (.int .u64), [v]⟩] => some (outd123 v a b n)
  | _, _ => none
def Gd123 := addG Gd124 126 spd123
def Pd123 (v : List Int) (a b n : Int) : Prop :=
 ((0≤a∧a<(↑ (4:Nat):Int))∧a.toNat<4∧(0≤b∧b<(↑ (4:Nat):Int))∧b.toNat<4∧(0≤a∧a<(↑ (4:Nat):Int))∧a.toNat<4)∧((0≤b∧b<(↑ (4:Nat):Int))∧b.toNat<4∧(0≤a∧a<(↑ (4:Nat):Int))∧a.toNat<4∧(0≤b∧b<(↑ (4:Nat):Int))∧b.toNat<4)∧List.set (List.set v a.toNat
 (IntKind.wrap .u64 (List.getD v a.toNat (0:Int)+List.getD v b.toNat (0:Int)))) b.toNat (ixor .u64 (turnI (List.getD (List.set v a.toNat (IntKind.wrap .u64 (List.getD v a.toNat (0:Int)+List.getD v b.toNat (0:Int)))) b.toNat (0:Int))
 n) (List.getD (List.set v a.toNat (IntKind.wrap .u64 (List.getD v a.toNat (0:Int)+List.getD v b.toNat (0:Int)))) a.toNat (0:Int)))=mixF v a.toNat b.toNat n∧false=false
theorem vcd123 (v : List Int) (a b n : Int) : Pd123 v a b n = vcFun Cd123 (annd123 v a b n) Go.Proofs.Tryd.f126 [⟨.ref .ptr, .ptr 0 (.arr 4 (.int .u64)) [0]⟩, ⟨.int .i64, a⟩, ⟨.int .i64, b⟩, ⟨.int .i64, n⟩] [⟨false, true, .arr 4 (.int .u64), [v]⟩] (outd123 v a b n) := by kernel_rfl

noncomputable def Cd96 : Ctx := ⟨Go.Proofs.Tryd.prog, D, Gd123, (fun _ _ => none), fun _ => []⟩
def annd96 (_v : List Int) : Nat → St → Option Ann := fun _ _ => none
def outd96 (v : List Int) : COut := ⟨[], .tup [], [(0, some ⟨false, true, .arr 4 (.int .u64), [rndF v]⟩)], []⟩
def spd96 : Spec := fun args ins => match args, ins with
  | [⟨.ref .ptr, .ptr 0 (.arr 4 (.int .u64)) [0]⟩], [⟨false, true, .arr 4 (.int .u64), [v]⟩] => some (outd96 v)
  | _, _ => none
def Gd96 := addG Gd123 89 spd96
def Pd96 (v : List Int) : Prop :=
 ((0:Int)≤0∧(0:Int)<4∧(0:Int)≤1∧(1:Int)<4)∧(((0:Int)≤0∧0<(↑ (4:Nat):Int))∧(0:Nat)<4∧((0:Int)≤0∧0<(↑ (4:Nat):Int))∧(0:Nat)<4)∧((0:Int)≤2∧(2:Int)<4∧(0:Int)≤3∧(3:Int)<4)∧((0:Int)≤0∧(0:Int)<4∧(0:Int)≤3∧(3:Int)<4)∧((0:Int)≤2∧(2:Int)<4∧(0:Int)≤1∧(1:Int)<4)∧(((0:Int)≤2∧2<(↑
 (4:Nat):Int))∧(2:Nat)<4∧((0:Int)≤2∧2<(↑ (4:Nat):Int))∧(2:Nat)<4)∧List.set (mixF (mixF (mixF (List.set (mixF v (0:Nat) (1:Nat) (13:Int)) (0:Nat) (turnI (List.getD (mixF v (0:Nat) (1:Nat) (13:Int)) (0:Nat) (0:Int)) (32:Int))) (2:Nat)
 (3:Nat) (16:Int)) (0:Nat) (3:Nat) (21:Int)) (2:Nat) (1:Nat) (17:Int)) (2:Nat) (turnI (List.getD (mixF (mixF (mixF (List.set (mixF v (0:Nat) (1:Nat) (13:Int)) (0:Nat) (turnI (List.getD (mixF v (0:Nat) (1:Nat) (13:Int)) (0:Nat) (0:Int))
 (32:Int))) (2:Nat) (3:Nat) (16:Int)) (0:Nat) (3:Nat) (21:Int)) (2:Nat) (1:Nat) (17:Int)) (2:Nat) (0:Int)) (32:Int))=rndF v∧false=false
theorem vcd96 (v : List Int) : Pd96 v = vcFun Cd96 (annd96 v) Go.Proofs.Tryd.f89 [⟨.ref .ptr, .ptr 0 (.arr 4 (.int .u64)) [0]⟩] [⟨false, true, .arr 4 (.int .u64), [v]⟩] (outd96 v) := by kernel_rfl

noncomputable def Cd98 : Ctx := ⟨Go.Proofs.Tryd.prog, D, Gd96, (fun _ _ => none), fun _ => []⟩
def annd98 (v : List Int) (n : Int) : Nat → St → Option Ann := fun _ _ => some ⟨Nat, [1, 4], [], fun i => [(5, .v (.int .i64) (i : Int))], fun i => [(0, some ⟨false, true, .arr 4 (.int .u64), [rndN v i]⟩)], fun i => i ≤ n.toNat, fun i => n.toNat - i⟩
def outd98 (v : List Int) (n : Int) : COut := ⟨[0 ≤ n ∧ n ≤ 1000], .tup [], [(0, some ⟨false, true, .arr 4 (.int .u64), [rndN v n.toNat]⟩)], []⟩
def spd98 : Spec := fun args ins => match args, ins with
  | [⟨.int .i64, n⟩, ⟨.ref .func, .func (.func 89) [.ptr 0 (.arr 4 (.int .u64)) [0]] []⟩], [⟨false, true, .arr 4 (.int .u64), [v]⟩] => some (outd98 v n)
  | _, _ => none
def Gd98 := addG Gd96 91 spd98
def Pd98 (v : List Int) (n : Int) : Prop :=
 ∃ (x:Nat),((0=0∧n=n∧0=(x:Int)∧v=rndN v x∧false=false)∧x≤n.toNat)∧∀ (x:Nat),x≤n.toNat→(IntKind.min .i64≤(x:Int)∧(x:Int)≤IntKind.max .i64∧∀ (y:List Int),List.Mem y [rndN v x]→List.length y=4∧∀ (y_1:Int),List.Mem y_1 y→IntKind.min .u64≤y_1∧y_1≤IntKind.max
 .u64)→bif decide ((x:Int)<n) then ∃ (y:Nat),(0=0∧n=n∧IntKind.wrap .i64 ((x:Int)+1)=(y:Int)∧rndF (rndN v x)=rndN v y∧false=false)∧y≤n.toNat∧n.toNat - y<n.toNat - x else rndN v x=rndN v n.toNat∧false=false
theorem vcd98 (v : List Int) (n : Int) : Pd98 v n = vcFun Cd98 (annd98 v n) Go.Proofs.Tryd.f91 [⟨.int .i64, n⟩, ⟨.ref .func, .func (.func 89) [.ptr 0 (.arr 4 (.int .u64)) [0]] []⟩] [⟨false, true, .arr 4 (.int .u64), [v]⟩] (outd98 v n) := by kernel_rfl

noncomputable def Cd95 : Ctx := ⟨Go.Proofs.Tryd.prog, D, Gd98, (fun _ _ => none), fun _ => []⟩
def annd95 (s : ByteArray) : Nat → St → Option Ann := fun _ _ => some ⟨Nat, [0, 6], [], fun i => [(7, .v (.int .i64) (i : Int)), (3, .v (.int .u64) (numTo s 0 i))], fun _ => [], fun i => i ≤ ByteArray.size s, fun i => ByteArray.size s - i⟩
def outd95 (s : ByteArray) : COut := ⟨[ByteArray.size s ≤ 8], .v (.int .u64) (wordS s 0), [], []⟩
def spd95 : Spec := fun args ins => match args, ins with
  | [⟨.str, s⟩], [] => some (outd95 s)
  | _, _ => none
def Gd95 := addG Gd98 88 spd95
def Pd95 (s : ByteArray) : Prop :=
 ∃ (x:Nat),((s=s∧0=numTo s (0:Nat) x∧(↑ (ByteArray.size s):Int)=(↑ (ByteArray.size s):Int)∧0=(x:Int))∧x≤ByteArray.size s)∧∀ (x:Nat),x≤ByteArray.size s→IntKind.min .i64≤(x:Int)∧(x:Int)≤IntKind.max .i64∧IntKind.min .u64≤numTo s (0:Nat)
 x∧numTo s (0:Nat) x≤IntKind.max .u64→bif decide ((x:Int)<(↑ (ByteArray.size s):Int)) then ((0≤(x:Int)∧(x:Int)<(↑ (ByteArray.size s):Int))∧0≤IntKind.wrap .i64 ((8:Int) * (x:Int)))∧∃ (y:Nat),(s=s∧ior .u64 (numTo s (0:Nat) x) (ishl .u64
 (IntKind.wrap .u64 (byteAt s (x:Int).toNat)) (IntKind.wrap .i64 ((8:Int) * (x:Int))))=numTo s (0:Nat) y∧(↑ (ByteArray.size s):Int)=(↑ (ByteArray.size s):Int)∧IntKind.wrap .i64 ((x:Int)+1)=(y:Int))∧y≤ByteArray.size s∧ByteArray.size s
 - y<ByteArray.size s - x else numTo s (0:Nat) x=wordS s (0:Nat)
theorem vcd95 (s : ByteArray) : Pd95 s = vcFun Cd95 (annd95 s) Go.Proofs.Tryd.f88 [⟨.str, s⟩] [] (outd95 s) := by kernel_rfl

end Go.SL.A

/- Bytes, words and turns: plain facts. -/
namespace Go.SL.A
open Go Go.SL Go.SL.S
set_option maxRecDepth 100000

theorem wrap_u64 (x : Int) : IntKind.u64.wrap x = x % 18446744073709551616 := by simp [IntKind.wrap, IntKind.bits, IntKind.signed]
theorem w_u64 {x : Int} (h : 0 ≤ x) (h' : x < 18446744073709551616) : IntKind.u64.wrap x = x := by rw [wrap_u64]; omega
theorem p64 : (2 : Nat) ^ 64 = 18446744073709551616 := by decide

theorem byte_fit (s : ByteArray) (i : Nat) : 0 ≤ byteAt s i ∧ byteAt s i < 256 := by
  unfold byteAt
  have := UInt8.toNat_lt (s.data.toList.getD i 0)
  omega
theorem byte_beyond {s : ByteArray} {i : Nat} (h : ByteArray.size s ≤ i) : byteAt s i = 0 := by
  unfold byteAt
  rw [List.getD_eq_getElem?_getD, List.getElem?_eq_none (by rw [Array.length_toList]; exact h)]; rfl
theorem byte_ext (s : ByteArray) (a b i : Nat) (h : a + i < b) : byteAt (ByteArray.extract s a b) i = byteAt s (a + i) := by
  unfold byteAt
  rw [ByteArray.data_extract, Array.toList_extract, List.extract_eq_take_drop, List.getD_eq_getElem?_getD, List.getElem?_take, if_pos (by omega), List.getElem?_drop, ← List.getD_eq_getElem?_getD]
theorem byte_of {l : List Int} (hl : ∀ x ∈ l, 0 ≤ x ∧ x ≤ 255) (i : Nat) : byteAt (bytesOf l) i = l.getD i 0 := by
  unfold byteAt bytesOf
  show (((l.map fun n => UInt8.ofNat n.toNat).getD i 0).toNat : Int) = _
  rw [List.getD_eq_getElem?_getD, List.getElem?_map, List.getD_eq_getElem?_getD]
  by_cases h : i < l.length
  · rw [List.getElem?_eq_getElem h]
    have := hl _ (List.getElem_mem h)
    show ((UInt8.ofNat (l[i]).toNat).toNat : Int) = l[i]
    rw [UInt8.toNat_ofNat']; omega
  · rw [List.getElem?_eq_none (by omega)]; rfl
theorem size_of (l : List Int) : ByteArray.size (bytesOf l) = l.length := by unfold bytesOf ByteArray.size; simp

theorem pow256 (n : Nat) : (0 : Int) < 256 ^ n := Int.pow_pos (by decide)
theorem num_fit (s : ByteArray) (a : Nat) : ∀ n, 0 ≤ numTo s a n ∧ numTo s a n < 256 ^ n
  | 0 => by simp [numTo]
  | n + 1 => by
    have h1 := num_fit s a n
    have h2 := byte_fit s (a + n)
    have h3 := pow256 n
    rw [numTo, Int.pow_succ]
    generalize (256 : Int) ^ n = P at *
    generalize byteAt s (a + n) = b at *
    have h4 : 0 ≤ b * P := Int.mul_nonneg h2.1 (Int.le_of_lt h3)
    have h5 : b * P ≤ 255 * P := Int.mul_le_mul_of_nonneg_right (by omega) (Int.le_of_lt h3)
    omega
theorem num_more (s : ByteArray) (a n m : Nat) (hm : n ≤ m) (h : ∀ i, n ≤ i → i < m → byteAt s (a + i) = 0) : numTo s a m = numTo s a n := by
  induction m with
  | zero => rw [show n = 0 by omega]
  | succ m ih =>
    by_cases e : n = m + 1
    · rw [e]
    · rw [numTo, h m (by omega) (by omega), Int.zero_mul, Int.add_zero]
      exact ih (by omega) fun i h1 h2 => h i h1 (by omega)
theorem num_congr {s t : ByteArray} {a b : Nat} : ∀ {n : Nat}, (∀ i, i < n → byteAt s (a + i) = byteAt t (b + i)) → numTo s a n = numTo t b n
  | 0, _ => rfl
  | n + 1, h => by rw [numTo, numTo, num_congr fun i hi => h i (by omega), h n (by omega)]
theorem num_low (s : ByteArray) (a : Nat) : ∀ k, numTo s a (k + 1) = 256 * numTo s (a + 1) k + byteAt s a
  | 0 => by simp [numTo]
  | k + 1 => by
    rw [numTo, num_low s a k, numTo, Int.pow_succ, show a + (k + 1) = a + 1 + k by omega, Int.mul_add]
    have : byteAt s (a + 1 + k) * (256 ^ k * 256) = 256 * (byteAt s (a + 1 + k) * 256 ^ k) := by
      rw [← Int.mul_assoc, Int.mul_comm]
    rw [this]; omega
/-! ### Either -/
theorem or_num {x y : Nat} (h : x ||| y < 2 ^ 64) : ior .u64 (x : Int) (y : Int) = ((x ||| y : Nat) : Int) := by
  have hx : x < 2 ^ 64 := Nat.lt_of_le_of_lt Nat.left_le_or h
  have hy : y < 2 ^ 64 := Nat.lt_of_le_of_lt Nat.right_le_or h
  unfold ior
  have e1 : (BitVec.ofInt IntKind.u64.bits (x : Int) ||| BitVec.ofInt IntKind.u64.bits (y : Int)).toNat = x ||| y := by
    rw [BitVec.toNat_or, BitVec.ofInt_natCast, BitVec.ofInt_natCast, BitVec.toNat_ofNat, BitVec.toNat_ofNat]
    have e : (2 : Nat) ^ IntKind.u64.bits = 2 ^ 64 := rfl
    rw [e, Nat.mod_eq_of_lt hx, Nat.mod_eq_of_lt hy]
  rw [e1]
  rw [p64] at h
  exact w_u64 (by omega) (by omega)
theorem or_high {a c i : Nat} (h : a < 2 ^ i) (hb : 2 ^ i * c + a < 2 ^ 64) : ior .u64 (a : Int) ((2 ^ i * c : Nat) : Int) = ((2 ^ i * c + a : Nat) : Int) := by
  have e := Nat.two_pow_add_eq_or_of_lt h c
  have hc : a ||| 2 ^ i * c = 2 ^ i * c + a := by rw [Nat.or_comm, e]
  rw [or_num (by rw [hc]; exact hb), hc]
theorem or_low {a c i : Nat} (h : a < 2 ^ i) (hb : 2 ^ i * c + a < 2 ^ 64) : ior .u64 ((2 ^ i * c : Nat) : Int) (a : Int) = ((2 ^ i * c + a : Nat) : Int) := by
  have e := Nat.two_pow_add_eq_or_of_lt h c
  rw [or_num (by rw [← e]; exact hb), e]
theorem or_byte {a b : Int} {i : Nat} (ha : 0 ≤ a ∧ a < 256 ^ i) (hb : 0 ≤ b ∧ b < 256) (hi : i < 8) : ior .u64 a (ishl .u64 b (8 * (i : Int))) = a + b * 256 ^ i := by
  obtain ⟨x, rfl⟩ : ∃ n : Nat, a = n := ⟨a.toNat, by omega⟩
  obtain ⟨y, rfl⟩ : ∃ n : Nat, b = n := ⟨b.toNat, by omega⟩
  have main : ∀ j : Nat, j = 8 * i → (256 : Nat) ^ i = 2 ^ j → 2 ^ j * 256 ≤ 2 ^ 64 → ior .u64 (x : Int) (ishl .u64 (y : Int) (8 * (i : Int))) = x + y * 256 ^ i := by
    intro j hj hp h64
    have hx : x < 2 ^ j := by
      rw [← hp]
      have : (x : Int) < ((256 ^ i : Nat) : Int) := by simpa using ha.2
      omega
    have hyj : 2 ^ j * y ≤ 2 ^ j * 255 := Nat.mul_le_mul_left _ (by omega)
    have hpj : 0 < 2 ^ j := Nat.pow_pos (by decide)
    have hs : ishl .u64 (y : Int) (8 * (i : Int)) = ((2 ^ j * y : Nat) : Int) := by
      unfold ishl
      have e1 : (8 * (i : Int)).toNat = j := by omega
      have e2 : min j IntKind.u64.bits = j := by
        have : IntKind.u64.bits = 64 := rfl
        omega
      have e3 : (y : Int) * 2 ^ j = ((2 ^ j * y : Nat) : Int) := by
        rw [Int.natCast_mul, Int.natCast_pow, Int.mul_comm]; rfl
      rw [p64] at h64
      rw [e1, e2, e3]
      exact w_u64 (by omega) (by omega)
    rw [hs, or_high hx (by omega)]
    rw [← hp, Int.natCast_add, Int.natCast_mul, Int.natCast_pow, Int.mul_comm, Int.add_comm]; rfl
  rcases (show i = 0 ∨ i = 1 ∨ i = 2 ∨ i = 3 ∨ i = 4 ∨ i = 5 ∨ i = 6 ∨ i = 7 by omega) with rfl | rfl | rfl | rfl | rfl | rfl | rfl | rfl
  · exact main 0 rfl (by decide) (by decide)
  · exact main 8 rfl (by decide) (by decide)
  · exact main 16 rfl (by decide) (by decide)
  · exact main 24 rfl (by decide) (by decide)
  · exact main 32 rfl (by decide) (by decide)
  · exact main 40 rfl (by decide) (by decide)
  · exact main 48 rfl (by decide) (by decide)
  · exact main 56 rfl (by decide) (by decide)
theorem or_len {a : Int} {n : Nat} (ha : 0 ≤ a ∧ a < 72057594037927936) : ior .u64 a (ishl .u64 (IntKind.u64.wrap (n : Int)) 56) = a + ((n % 256 : Nat) : Int) * 72057594037927936 := by
  obtain ⟨x, rfl⟩ : ∃ m : Nat, a = m := ⟨a.toNat, by omega⟩
  have e56 : (2 : Nat) ^ 56 = 72057594037927936 := by decide
  have hs : ishl .u64 (IntKind.u64.wrap (n : Int)) 56 = ((2 ^ 56 * (n % 256) : Nat) : Int) := by
    unfold ishl
    have e2 : min (56 : Int).toNat IntKind.u64.bits = 56 := rfl
    have e3 : (2 : Int) ^ 56 = 72057594037927936 := by decide
    rw [e2, e3, e56, wrap_u64, wrap_u64]
    omega
  rw [hs, or_high (by rw [e56]; omega) (by rw [e56, p64]; omega), e56]
  omega

/-! ### Turns -/
def rotN (x m : Nat) : Nat := 2 ^ m * (x % 2 ^ (64 - m)) + x / 2 ^ (64 - m)
theorem pow_split {m : Nat} (h : m ≤ 64) : 2 ^ (64 - m) * 2 ^ m = 2 ^ 64 := by rw [← Nat.pow_add, Nat.sub_add_cancel h]
theorem rot_fit {x m : Nat} (hx : x < 2 ^ 64) (hm : m ≤ 64) : x / 2 ^ (64 - m) < 2 ^ m ∧ rotN x m < 2 ^ 64 := by
  have h1 : x / 2 ^ (64 - m) < 2 ^ m := Nat.div_lt_of_lt_mul (by rw [pow_split hm]; exact hx)
  refine ⟨h1, ?_⟩
  unfold rotN
  have h2 : x % 2 ^ (64 - m) < 2 ^ (64 - m) := Nat.mod_lt _ (Nat.pow_pos (by decide))
  have h3 : 2 ^ m * (x % 2 ^ (64 - m) + 1) ≤ 2 ^ m * 2 ^ (64 - m) := Nat.mul_le_mul_left _ (by omega)
  rw [Nat.mul_comm (2 ^ m) (2 ^ (64 - m)), pow_split hm, Nat.mul_add] at h3
  omega
theorem turn_num {x m : Nat} (hx : x < 2 ^ 64) (hm : m < 64) {n : Int} (hn : n % 64 = m) : turnI (x : Int) n = (rotN x m : Int) := by
  obtain ⟨h1, h2⟩ := rot_fit hx (Nat.le_of_lt hm)
  unfold turnI
  rw [hn]
  have e1 : ishl .u64 (x : Int) (m : Int) = ((2 ^ m * (x % 2 ^ (64 - m)) : Nat) : Int) := by
    unfold ishl
    have e2 : min (m : Int).toNat IntKind.u64.bits = m := by
      have : IntKind.u64.bits = 64 := rfl
      omega
    have e3 : (x : Int) * 2 ^ m = ((x * 2 ^ m : Nat) : Int) := by rw [Int.natCast_mul, Int.natCast_pow]; rfl
    have e4 : x * 2 ^ m % 18446744073709551616 = 2 ^ m * (x % 2 ^ (64 - m)) := by
      rw [← p64, ← pow_split (Nat.le_of_lt hm), Nat.mul_mod_mul_right, Nat.mul_comm]
    rw [e2, e3, wrap_u64, ← e4]
    omega
  have e2 : ishr .u64 (x : Int) (64 - (m : Int)) = ((x / 2 ^ (64 - m) : Nat) : Int) := by
    unfold ishr
    have e3 : min (64 - (m : Int)).toNat IntKind.u64.bits = 64 - m := by
      have : IntKind.u64.bits = 64 := rfl
      omega
    rw [e3, Int.fdiv_eq_ediv_of_nonneg _ (Int.le_of_lt (Int.pow_pos (by decide))), Int.natCast_ediv, Int.natCast_pow]; rfl
  rw [e1, e2, or_low h1 (by unfold rotN at h2; exact h2)]; rfl
theorem rot_step {x m : Nat} (hx : x < 2 ^ 64) (hm : m < 63) : rot1 (rotN x m : Int) = (rotN x (m + 1) : Int) := by
  obtain ⟨h1, h2⟩ := rot_fit hx (show m ≤ 64 by omega)
  have eQ : 2 ^ (64 - m) = 2 ^ (63 - m) * 2 := by rw [show 64 - m = 63 - m + 1 by omega, Nat.pow_succ]
  have eQ2 : 64 - (m + 1) = 63 - m := by omega
  have hPQ : 2 ^ m * 2 ^ (63 - m) = 9223372036854775808 := by
    rw [← Nat.pow_add, show m + (63 - m) = 63 by omega]
  have hr : x % 2 ^ (63 - m) < 2 ^ (63 - m) := Nat.mod_lt _ (Nat.pow_pos (by decide))
  unfold rotN at *
  rw [eQ2, eQ, Nat.mod_mul, ← Nat.div_div_eq_div_mul, Nat.pow_succ]
  rw [eQ, ← Nat.div_div_eq_div_mul] at h1
  generalize 2 ^ (63 - m) = Q at *
  generalize 2 ^ m = P at *
  generalize x % Q = r at *
  generalize x / Q = u at *
  have h3 : P * (r + 1) ≤ P * Q := Nat.mul_le_mul_left _ (by omega)
  rw [hPQ, Nat.mul_add, Nat.mul_one] at h3
  have h4 : P * (r + Q * (u % 2)) = P * r + 9223372036854775808 * (u % 2) := by rw [Nat.mul_add, ← Nat.mul_assoc, hPQ]
  have h5 : P * 2 * r = 2 * (P * r) := by rw [Nat.mul_comm P 2, Nat.mul_assoc]
  rw [h4, h5]
  generalize P * r = A at *
  unfold rot1
  rw [wrap_u64]
  rcases (show u % 2 = 0 ∨ u % 2 = 1 by omega) with h | h
  · rw [h, if_neg (by omega)]; omega
  · rw [h, if_pos (by omega)]; omega
theorem left_rot {x : Nat} (hx : x < 2 ^ 64) : ∀ n, n ≤ 63 → leftTo (x : Int) n = (rotN x n : Int)
  | 0, _ => by
    show (x : Int) = _
    unfold rotN
    have e1 : x % 2 ^ (64 - 0) = x := Nat.mod_eq_of_lt hx
    have e2 : x / 2 ^ (64 - 0) = 0 := Nat.div_eq_of_lt hx
    rw [e1, e2]; omega
  | n + 1, hn => by
    rw [leftTo, left_rot hx n (by omega), rot_step hx (by omega)]
theorem left_turn {x n : Int} (hx : 0 ≤ x ∧ x < 18446744073709551616) (hn : 0 ≤ n ∧ n < 64) : leftTo x n.toNat = turnI x n := by
  obtain ⟨y, rfl⟩ : ∃ m : Nat, x = m := ⟨x.toNat, by omega⟩
  have hy : y < 2 ^ 64 := by rw [p64]; omega
  rw [left_rot hy _ (by omega), turn_num hy (m := n.toNat) (by omega) (by omega)]
theorem turn_fit {x n : Int} (hx : 0 ≤ x ∧ x < 18446744073709551616) : 0 ≤ turnI x n ∧ turnI x n < 18446744073709551616 := by
  obtain ⟨y, rfl⟩ : ∃ m : Nat, x = m := ⟨x.toNat, by omega⟩
  have hy : y < 2 ^ 64 := by rw [p64]; omega
  have h := (rot_fit hy (m := (n % 64).toNat) (by omega)).2
  rw [turn_num hy (m := (n % 64).toNat) (by omega) (by omega)]
  rw [p64] at h
  omega
theorem ixor_fit (a b : Int) : 0 ≤ ixor .u64 a b ∧ ixor .u64 a b < 18446744073709551616 := by
  unfold ixor; rw [wrap_u64]; omega
end Go.SL.A

/- The keyed sum: turns, rounds, words' numbers. -/
namespace Go.SL.A
open Go Go.SL Go.SL.S
set_option maxRecDepth 100000

theorem pured124 (x n : Int) : Pd124 x n := by
  unfold Pd124
  have d := tdm n (k := 64) (by decide)
  have e1 : IntKind.i64.wrap (n.tmod 64 + 64) = n.tmod 64 + 64 := w64 (by omega) (by omega)
  have d2 := tdm (n.tmod 64 + 64) (k := 64) (by decide)
  have e2 : (n.tmod 64 + 64).tmod 64 = n % 64 := by omega
  have e3 : IntKind.i64.wrap (64 - n % 64) = 64 - n % 64 := w64 (by omega) (by omega)
  rw [e1, e2, e3]
  exact ⟨⟨by decide, by decide⟩, ⟨by omega, by omega⟩, rfl⟩

theorem pured123 (v : List Int) (a b n : Int) (hp : 0 ≤ a ∧ a < 4 ∧ 0 ≤ b ∧ b < 4) : Pd123 v a b n := by
  obtain ⟨h1, h2, h3, h4⟩ := hp
  unfold Pd123
  exact ⟨⟨⟨h1, by omega⟩, by omega, ⟨h3, by omega⟩, by omega, ⟨h1, by omega⟩, by omega⟩, ⟨⟨h3, by omega⟩, by omega, ⟨h1, by omega⟩, by omega, ⟨h3, by omega⟩, by omega⟩, rfl, rfl⟩

theorem pured96 (v : List Int) : Pd96 v := by
  unfold Pd96
  exact ⟨by decide, by decide, by decide, by decide, by decide, by decide, rfl, rfl⟩

theorem pured98 (v : List Int) (n : Int) (hp : 0 ≤ n ∧ n ≤ 1000) : Pd98 v n := by
  unfold Pd98
  simp only [eq_self, true_and, and_true]
  refine ⟨0, ⟨⟨rfl, rfl⟩, by omega⟩, fun i hi hw => ?_⟩
  clear hw
  by_cases h : (i : Int) < n
  · rw [decide_eq_true h, cond_true]
    exact ⟨i + 1, ⟨step_i (by omega), rfl⟩, by omega, by omega⟩
  · have : i = n.toNat := by omega
    rw [decide_eq_false h, cond_false, this]

theorem pured95 (s : ByteArray) (hp : ByteArray.size s ≤ 8) : Pd95 s := by
  unfold Pd95
  simp only [eq_self, true_and, Int.toNat_natCast]
  refine ⟨0, ⟨⟨rfl, rfl⟩, by omega⟩, fun i hi hw => ?_⟩
  clear hw
  by_cases h : (i : Int) < (ByteArray.size s : Int)
  · have hb := byte_fit s i
    have hn := num_fit s 0 i
    rw [decide_eq_true h, cond_true, w64 (n := 8 * (i : Int)) (by omega) (by omega), w_u64 hb.1 (by omega), or_byte hn hb (by omega)]
    refine ⟨⟨⟨by omega, by omega⟩, by omega⟩, i + 1, ⟨?_, step_i (by omega)⟩, by omega, by omega⟩
    rw [numTo, Nat.zero_add]
  · have : i = ByteArray.size s := by omega
    subst this
    rw [decide_eq_false h, cond_false]
    unfold wordS
    exact (num_more s 0 _ 8 hp fun j h1 _ => byte_beyond (by omega)).symm
end Go.SL.A

/- Functions do what they are held to do. -/
namespace Go.SL.A
open Go Go.SL Go.SL.S
theorem sndd124 : Sound Go.Proofs.Tryd.prog Gd124 := snd00.add ⟨_, Go.Proofs.Tryd.func127, by kernel_rfl, by kernel_rfl⟩ (by
  intro args ins out h hp
  unfold spd124 at h
  split at h
  · rename_i x n
    cases h
    exact vcFun_ok (C := Cd124) good snd00 Meth.none mix Go.Proofs.Tryd.func127 (annd124 x n) (fun hw => by rw [← vcd124 x n]; exact pured124 x n)
  · cases h)

theorem sndd123 : Sound Go.Proofs.Tryd.prog Gd123 := sndd124.add ⟨_, Go.Proofs.Tryd.func126, by kernel_rfl, by kernel_rfl⟩ (by
  intro args ins out h hp
  unfold spd123 at h
  split at h
  · rename_i a b n v
    cases h
    exact vcFun_ok (C := Cd123) good sndd124 Meth.none mix Go.Proofs.Tryd.func126 (annd123 v a b n) (fun hw => by rw [← vcd123 v a b n]; exact pured123 v a b n hp)
  · cases h)

theorem sndd96 : Sound Go.Proofs.Tryd.prog Gd96 := sndd123.add ⟨_, Go.Proofs.Tryd.func89, by kernel_rfl, by kernel_rfl⟩ (by
  intro args ins out h hp
  unfold spd96 at h
  split at h
  · rename_i v
    cases h
    exact vcFun_ok (C := Cd96) good sndd123 Meth.none mix Go.Proofs.Tryd.func89 (annd96 v) (fun hw => by rw [← vcd96 v]; exact pured96 v)
  · cases h)

theorem sndd98 : Sound Go.Proofs.Tryd.prog Gd98 := sndd96.add ⟨_, Go.Proofs.Tryd.func91, by kernel_rfl, by kernel_rfl⟩ (by
  intro args ins out h hp
  unfold spd98 at h
  split at h
  · rename_i n v
    cases h
    exact vcFun_ok (C := Cd98) good sndd96 Meth.none mix Go.Proofs.Tryd.func91 (annd98 v n) (fun hw => by rw [← vcd98 v n]; exact pured98 v n hp)
  · cases h)

theorem sndd95 : Sound Go.Proofs.Tryd.prog Gd95 := sndd98.add ⟨_, Go.Proofs.Tryd.func88, by kernel_rfl, by kernel_rfl⟩ (by
  intro args ins out h hp
  unfold spd95 at h
  split at h
  · rename_i s
    cases h
    exact vcFun_ok (C := Cd95) good sndd98 Meth.none mix Go.Proofs.Tryd.func88 (annd95 s) (fun hw => by rw [← vcd95 s]; exact pured95 s hp)
  · cases h)

end Go.SL.A

/- Functions and what they are held to do: bound to their code. -/
namespace Go.SL.A
open Go Go.SL Go.SL.S
set_option maxRecDepth 100000
noncomputable def Cd97 : Ctx := ⟨Go.Proofs.Tryd.prog, D, Gd95, (fun _ _ => none), fun _ => []⟩
def annd97 (s : ByteArray) : Nat → St → Option Ann := fun _ _ => some ⟨Nat, [4], [], fun k => [(0, .v .str (ByteArray.extract s (8 * k) (ByteArray.size s))), (3, .v (.ref .slice) (.slice 0 (.int .u64) [] 0 k))], fun k => [(0, some ⟨false, false, .int .u64, wordsTo s k⟩)], fun k => k ≤ ByteArray.size s / 8, fun k => ByteArray.size s / 8 - k⟩
def outd97 (s : ByteArray) : COut := ⟨[ByteArray.size s ≤ 1000000000], .v (.ref .slice) (.slice 0 (.int .u64) [] 0 (ByteArray.size s / 8 + 1)), [], [⟨false, false, .int .u64, wordsF s⟩]⟩
def spd97 : Spec := fun args ins => match args, ins with
  | [⟨.str, s⟩], [] => some (outd97 s)
  | _, _ => none
def Gd97 := addG Gd95 90 spd97
def Pd97 (s : ByteArray) : Prop :=
 (0:Int)≤56∧∃ (x:Nat),((s=ByteArray.extract s ((8:Nat) * x) (ByteArray.size s)∧x=0∧ishl .u64 (IntKind.wrap .u64 (↑ (ByteArray.size s):Int)) (56:Int)=ishl .u64 (IntKind.wrap .u64 (↑ (ByteArray.size s):Int)) (56:Int)∧wordsTo s x=[])∧x≤ByteArray.size
 s / 8)∧∀ (x:Nat),x≤ByteArray.size s / 8→(ByteArray.size (ByteArray.extract s ((8:Nat) * x) (ByteArray.size s))≤9223372036854775807∧∀ (y:Int),List.Mem y (wordsTo s x)→IntKind.min .u64≤y∧y≤IntKind.max .u64)→bif decide (8≤(↑ (ByteArray.size
 (ByteArray.extract s ((8:Nat) * x) (ByteArray.size s))):Int)) then ((0:Int)≤8∧8≤(↑ (ByteArray.size (ByteArray.extract s ((8:Nat) * x) (ByteArray.size s))):Int)∧ByteArray.size (ByteArray.extract (ByteArray.extract s ((8:Nat) * x) (ByteArray.size
 s)) (0:Nat) (8:Nat))≤8∧(1:Nat)≤1∧0+x=List.length (wordsTo s x)∧(x+List.length (seg (wordS (ByteArray.extract (ByteArray.extract s ((8:Nat) * x) (ByteArray.size s)) (0:Nat) (8:Nat)) (0:Nat) :: List.replicate (nat_lit 0) (0:Int)) (0:Nat)
 (1:Nat))) * 8≤70368744177664)∧((0:Int)≤8∧8≤(↑ (ByteArray.size (ByteArray.extract s ((8:Nat) * x) (ByteArray.size s))):Int))∧∃ (y:Nat),(ByteArray.extract (ByteArray.extract s ((8:Nat) * x) (ByteArray.size s)) (8:Nat) (8+((↑ (ByteArray.size
 (ByteArray.extract s ((8:Nat) * x) (ByteArray.size s))):Int).toNat - 8))=ByteArray.extract s ((8:Nat) * y) (ByteArray.size s)∧0=0∧x+List.length (seg (wordS (ByteArray.extract (ByteArray.extract s ((8:Nat) * x) (ByteArray.size s)) (0:Nat)
 (8:Nat)) (0:Nat) :: List.replicate (nat_lit 0) (0:Int)) (0:Nat) (1:Nat))=y∧ishl .u64 (IntKind.wrap .u64 (↑ (ByteArray.size s):Int)) (56:Int)=ishl .u64 (IntKind.wrap .u64 (↑ (ByteArray.size s):Int)) (56:Int)∧List.append (List.drop (0:Nat)
 (wordsTo s x)) (seg (wordS (ByteArray.extract (ByteArray.extract s ((8:Nat) * x) (ByteArray.size s)) (0:Nat) (8:Nat)) (0:Nat) :: List.replicate (nat_lit 0) (0:Int)) (0:Nat) (1:Nat))=wordsTo s y∧false=false)∧y≤ByteArray.size s / 8∧ByteArray.size
 s / 8 - y<ByteArray.size s / 8 - x else (ByteArray.size (ByteArray.extract s ((8:Nat) * x) (ByteArray.size s))≤8∧(1:Nat)≤1∧0+x=List.length (wordsTo s x)∧(x+List.length (seg (ior .u64 (wordS (ByteArray.extract s ((8:Nat) * x) (ByteArray.size
 s)) (0:Nat)) (ishl .u64 (IntKind.wrap .u64 (↑ (ByteArray.size s):Int)) (56:Int)) :: List.replicate (nat_lit 0) (0:Int)) (0:Nat) (1:Nat))) * 8≤70368744177664)∧0=0∧x+List.length (seg (ior .u64 (wordS (ByteArray.extract s ((8:Nat) * x)
 (ByteArray.size s)) (0:Nat)) (ishl .u64 (IntKind.wrap .u64 (↑ (ByteArray.size s):Int)) (56:Int)) :: List.replicate (nat_lit 0) (0:Int)) (0:Nat) (1:Nat))=ByteArray.size s / 8+1∧List.append (List.drop (0:Nat) (wordsTo s x)) (seg (ior
 .u64 (wordS (ByteArray.extract s ((8:Nat) * x) (ByteArray.size s)) (0:Nat)) (ishl .u64 (IntKind.wrap .u64 (↑ (ByteArray.size s):Int)) (56:Int)) :: List.replicate (nat_lit 0) (0:Int)) (0:Nat) (1:Nat))=wordsF s∧false=false
theorem vcd97 (s : ByteArray) : Pd97 s = vcFun Cd97 (annd97 s) Go.Proofs.Tryd.f90 [⟨.str, s⟩] [] (outd97 s) := by kernel_rfl

noncomputable def Cd120 : Ctx := ⟨Go.Proofs.Tryd.prog, D, Gd97, (fun _ _ => none), fun _ => []⟩
def annd120 (x n : Int) : Nat → St → Option Ann := fun _ _ => some ⟨Nat, [1], [], fun i => [(5, .v (.int .i64) (i : Int)), (0, .v (.int .u64) (leftTo x i))], fun _ => [], fun i => i ≤ n.toNat, fun i => n.toNat - i⟩
def outd120 (x n : Int) : COut := ⟨[0 ≤ n ∧ n < 64], .v (.int .u64) (turnI x n), [], []⟩
def spd120 : Spec := fun args ins => match args, ins with
  | [⟨.int .u64, x⟩, ⟨.int .i64, n⟩], [] => some (outd120 x n)
  | _, _ => none
def Gd120 := addG Gd97 156 spd120
def Pd120 (x n : Int) : Prop :=
 ∃ (x_1:Nat),((x=leftTo x x_1∧n=n∧0=(x_1:Int))∧x_1≤n.toNat)∧∀ (x_2:Nat),x_2≤n.toNat→IntKind.min .i64≤(x_2:Int)∧(x_2:Int)≤IntKind.max .i64∧IntKind.min .u64≤leftTo x x_2∧leftTo x x_2≤IntKind.max .u64→bif decide ((x_2:Int)<n) then bif decide
 (9223372036854775808≤leftTo x x_2) then ∃ (y:Nat),(IntKind.wrap .u64 (IntKind.wrap .u64 ((2:Int) * leftTo x x_2)+1)=leftTo x y∧n=n∧IntKind.wrap .i64 ((x_2:Int)+1)=(y:Int))∧y≤n.toNat∧n.toNat - y<n.toNat - x_2 else ∃ (y:Nat),(IntKind.wrap
 .u64 ((2:Int) * leftTo x x_2)=leftTo x y∧n=n∧IntKind.wrap .i64 ((x_2:Int)+1)=(y:Int))∧y≤n.toNat∧n.toNat - y<n.toNat - x_2 else leftTo x x_2=turnI x n
theorem vcd120 (x n : Int) : Pd120 x n = vcFun Cd120 (annd120 x n) Go.Proofs.Tryd.f156 [⟨.int .u64, x⟩, ⟨.int .i64, n⟩] [] (outd120 x n) := by kernel_rfl

noncomputable def Cd91 : Ctx := ⟨Go.Proofs.Tryd.prog, D, Gd120, (fun _ _ => none), fun _ => []⟩
def annd91 (s : ByteArray) (a : Int) : Nat → St → Option Ann := fun _ _ => some ⟨Nat, [0, 1], [], fun k => [(6, .v (.int .i64) (7 - (k : Int))), (5, .v (.int .u64) (numTo s (a.toNat + 8 - k) k))], fun _ => [], fun k => k ≤ 8, fun k => 8 - k⟩
def outd91 (s : ByteArray) (a : Int) : COut := ⟨[0 ≤ a ∧ a ≤ 1000000000], .v (.int .u64) (wordS s a.toNat), [], []⟩
def spd91 : Spec := fun args ins => match args, ins with
  | [⟨.str, s⟩, ⟨.int .i64, a⟩], [] => some (outd91 s a)
  | _, _ => none
def Gd91 := addG Gd120 131 spd91
def Pd91 (s : ByteArray) (a : Int) : Prop :=
 ∃ (x:Nat),((s=s∧a=a∧0=numTo s (a.toNat+8 - x) x∧(7:Int)=7 - (x:Int))∧x≤8)∧∀ (x:Nat),x≤8→IntKind.min .i64≤7 - (x:Int)∧7 - (x:Int)≤IntKind.max .i64∧IntKind.min .u64≤numTo s (a.toNat+8 - x) x∧numTo s (a.toNat+8 - x) x≤IntKind.max .u64→bif
 decide ((0:Int)≤7 - (x:Int)) then bif decide (IntKind.wrap .i64 (a+(7 - (x:Int)))<(↑ (ByteArray.size s):Int)) then (0≤IntKind.wrap .i64 (a+(7 - (x:Int)))∧IntKind.wrap .i64 (a+(7 - (x:Int)))<(↑ (ByteArray.size s):Int))∧∃ (y:Nat),(s=s∧a=a∧IntKind.wrap
 .u64 (IntKind.wrap .u64 ((256:Int) * numTo s (a.toNat+8 - x) x)+IntKind.wrap .u64 (byteAt s (IntKind.wrap .i64 (a+(7 - (x:Int)))).toNat))=numTo s (a.toNat+8 - y) y∧IntKind.wrap .i64 (7 - (x:Int) - 1)=7 - (y:Int))∧y≤8∧8 - y<8 - x else
 ∃ (y:Nat),(s=s∧a=a∧IntKind.wrap .u64 ((256:Int) * numTo s (a.toNat+8 - x) x)=numTo s (a.toNat+8 - y) y∧IntKind.wrap .i64 (7 - (x:Int) - 1)=7 - (y:Int))∧y≤8∧8 - y<8 - x else numTo s (a.toNat+8 - x) x=wordS s a.toNat
theorem vcd91 (s : ByteArray) (a : Int) : Pd91 s a = vcFun Cd91 (annd91 s a) Go.Proofs.Tryd.f131 [⟨.str, s⟩, ⟨.int .i64, a⟩] [] (outd91 s a) := by kernel_rfl

noncomputable def Cd92 : Ctx := ⟨Go.Proofs.Tryd.prog, D, Gd91, (fun _ _ => none), fun _ => []⟩
def annd92 (s : ByteArray) : Nat → St → Option Ann := fun _ _ => some ⟨Nat, [0, 4], [], fun k => [(5, .v (.int .i64) (k : Int)), (3, .v (.ref .slice) (.slice 0 (.int .u64) [] 0 k))], fun k => [(0, some ⟨false, false, .int .u64, wordsTo s k⟩)], fun k => k ≤ ByteArray.size s / 8, fun k => ByteArray.size s / 8 - k⟩
def outd92 (s : ByteArray) : COut := ⟨[ByteArray.size s ≤ 1000000000], .v (.ref .slice) (.slice 0 (.int .u64) [] 0 (ByteArray.size s / 8 + 1)), [], [⟨false, false, .int .u64, wordsF s⟩]⟩
def spd92 : Spec := fun args ins => match args, ins with
  | [⟨.str, s⟩], [] => some (outd92 s)
  | _, _ => none
def Gd92 := addG Gd91 132 spd92
def Pd92 (s : ByteArray) : Prop :=
 (8:Int)≠0∧∃ (x:Nat),((s=s∧x=0∧IntKind.wrap .i64 (Int.tdiv (↑ (ByteArray.size s):Int) (8:Int))=IntKind.wrap .i64 (Int.tdiv (↑ (ByteArray.size s):Int) (8:Int))∧0=(x:Int)∧wordsTo s x=[])∧x≤ByteArray.size s / 8)∧∀ (x:Nat),x≤ByteArray.size
 s / 8→(IntKind.min .i64≤(x:Int)∧(x:Int)≤IntKind.max .i64∧∀ (y:Int),List.Mem y (wordsTo s x)→IntKind.min .u64≤y∧y≤IntKind.max .u64)→bif decide ((x:Int)<IntKind.wrap .i64 (Int.tdiv (↑ (ByteArray.size s):Int) (8:Int))) then ((0≤IntKind.wrap
 .i64 ((8:Int) * (x:Int))∧IntKind.wrap .i64 ((8:Int) * (x:Int))≤1000000000)∧(1:Nat)≤1∧0+x=List.length (wordsTo s x)∧(x+List.length (seg (wordS s (IntKind.wrap .i64 ((8:Int) * (x:Int))).toNat :: List.replicate (nat_lit 0) (0:Int)) (0:Nat)
 (1:Nat))) * 8≤70368744177664)∧∃ (y:Nat),(s=s∧0=0∧x+List.length (seg (wordS s (IntKind.wrap .i64 ((8:Int) * (x:Int))).toNat :: List.replicate (nat_lit 0) (0:Int)) (0:Nat) (1:Nat))=y∧IntKind.wrap .i64 (Int.tdiv (↑ (ByteArray.size s):Int)
 (8:Int))=IntKind.wrap .i64 (Int.tdiv (↑ (ByteArray.size s):Int) (8:Int))∧IntKind.wrap .i64 ((x:Int)+1)=(y:Int)∧List.append (List.drop (0:Nat) (wordsTo s x)) (seg (wordS s (IntKind.wrap .i64 ((8:Int) * (x:Int))).toNat :: List.replicate
 (nat_lit 0) (0:Int)) (0:Nat) (1:Nat))=wordsTo s y∧false=false)∧y≤ByteArray.size s / 8∧ByteArray.size s / 8 - y<ByteArray.size s / 8 - x else (0≤IntKind.wrap .i64 ((8:Int) * IntKind.wrap .i64 (Int.tdiv (↑ (ByteArray.size s):Int) (8:Int)))∧IntKind.wrap
 .i64 ((8:Int) * IntKind.wrap .i64 (Int.tdiv (↑ (ByteArray.size s):Int) (8:Int)))≤1000000000)∧(256:Int)≠0∧((1:Nat)≤1∧0+x=List.length (wordsTo s x)∧(x+List.length (seg (IntKind.wrap .u64 (wordS s (IntKind.wrap .i64 ((8:Int) * IntKind.wrap
 .i64 (Int.tdiv (↑ (ByteArray.size s):Int) (8:Int)))).toNat+IntKind.wrap .u64 (IntKind.wrap .u64 (Int.tmod (↑ (ByteArray.size s):Int) (256:Int)) * 72057594037927936)) :: List.replicate (nat_lit 0) (0:Int)) (0:Nat) (1:Nat))) * 8≤70368744177664)∧0=0∧x+List.length
 (seg (IntKind.wrap .u64 (wordS s (IntKind.wrap .i64 ((8:Int) * IntKind.wrap .i64 (Int.tdiv (↑ (ByteArray.size s):Int) (8:Int)))).toNat+IntKind.wrap .u64 (IntKind.wrap .u64 (Int.tmod (↑ (ByteArray.size s):Int) (256:Int)) * 72057594037927936))
 :: List.replicate (nat_lit 0) (0:Int)) (0:Nat) (1:Nat))=ByteArray.size s / 8+1∧List.append (List.drop (0:Nat) (wordsTo s x)) (seg (IntKind.wrap .u64 (wordS s (IntKind.wrap .i64 ((8:Int) * IntKind.wrap .i64 (Int.tdiv (↑ (ByteArray.size
 s):Int) (8:Int)))).toNat+IntKind.wrap .u64 (IntKind.wrap .u64 (Int.tmod (↑ (ByteArray.size s):Int) (256:Int)) * 72057594037927936)) :: List.replicate (nat_lit 0) (0:Int)) (0:Nat) (1:Nat))=wordsF s∧false=false
theorem vcd92 (s : ByteArray) : Pd92 s = vcFun Cd92 (annd92 s) Go.Proofs.Tryd.f132 [⟨.str, s⟩] [] (outd92 s) := by kernel_rfl

noncomputable def Cd93 : Ctx := ⟨Go.Proofs.Tryd.prog, D, Gd92, (fun _ _ => none), fun _ => []⟩
def annd93 (_v : List Int) : Nat → St → Option Ann := fun _ _ => none
def outd93 (v : List Int) : COut := ⟨[], .v (.arr 4 (.int .u64)) (rndF v), [], []⟩
def spd93 : Spec := fun args ins => match args, ins with
  | [⟨.arr 4 (.int .u64), v⟩], [] => some (outd93 v)
  | _, _ => none
def Gd93 := addG Gd92 133 spd93
def Pd93 (v : List Int) : Prop :=
 (((0:Int)≤0∧0<(↑ (4:Nat):Int))∧(0:Nat)<4∧((0:Int)≤1∧1<(↑ (4:Nat):Int))∧(1:Nat)<4∧((0:Int)≤2∧2<(↑ (4:Nat):Int))∧(2:Nat)<4∧((0:Int)≤3∧3<(↑ (4:Nat):Int))∧(3:Nat)<4)∧((0:Int)≤13∧(13:Int)<64)∧((0:Int)≤32∧(32:Int)<64)∧((0:Int)≤16∧(16:Int)<64)∧((0:Int)≤21∧(21:Int)<64)∧((0:Int)≤17∧(17:Int)<64)∧((0:Int)≤32∧(32:Int)<64)∧IntKind.wrap
 .u64 (turnI (IntKind.wrap .u64 (List.getD v (0:Nat) (0:Int)+List.getD v (1:Nat) (0:Int))) (32:Int)+ixor .u64 (turnI (List.getD v (3:Nat) (0:Int)) (16:Int)) (IntKind.wrap .u64 (List.getD v (2:Nat) (0:Int)+List.getD v (3:Nat) (0:Int))))
 :: List.set (List.set (List.set (List.replicate (nat_lit 3) (0:Int)) (nat_lit 0) (ixor .u64 (turnI (ixor .u64 (turnI (List.getD v (1:Nat) (0:Int)) (13:Int)) (IntKind.wrap .u64 (List.getD v (0:Nat) (0:Int)+List.getD v (1:Nat) (0:Int))))
 (17:Int)) (IntKind.wrap .u64 (IntKind.wrap .u64 (List.getD v (2:Nat) (0:Int)+List.getD v (3:Nat) (0:Int))+ixor .u64 (turnI (List.getD v (1:Nat) (0:Int)) (13:Int)) (IntKind.wrap .u64 (List.getD v (0:Nat) (0:Int)+List.getD v (1:Nat) (0:Int)))))))
 (nat_lit 1) (turnI (IntKind.wrap .u64 (IntKind.wrap .u64 (List.getD v (2:Nat) (0:Int)+List.getD v (3:Nat) (0:Int))+ixor .u64 (turnI (List.getD v (1:Nat) (0:Int)) (13:Int)) (IntKind.wrap .u64 (List.getD v (0:Nat) (0:Int)+List.getD v
 (1:Nat) (0:Int))))) (32:Int))) (nat_lit 2) (ixor .u64 (turnI (ixor .u64 (turnI (List.getD v (3:Nat) (0:Int)) (16:Int)) (IntKind.wrap .u64 (List.getD v (2:Nat) (0:Int)+List.getD v (3:Nat) (0:Int)))) (21:Int)) (IntKind.wrap .u64 (turnI
 (IntKind.wrap .u64 (List.getD v (0:Nat) (0:Int)+List.getD v (1:Nat) (0:Int))) (32:Int)+ixor .u64 (turnI (List.getD v (3:Nat) (0:Int)) (16:Int)) (IntKind.wrap .u64 (List.getD v (2:Nat) (0:Int)+List.getD v (3:Nat) (0:Int))))))=rndF v
theorem vcd93 (v : List Int) : Pd93 v = vcFun Cd93 (annd93 v) Go.Proofs.Tryd.f133 [⟨.arr 4 (.int .u64), v⟩] [] (outd93 v) := by kernel_rfl

end Go.SL.A

/- The keyed sum: words. -/
namespace Go.SL.A
open Go Go.SL Go.SL.S
set_option maxRecDepth 100000

theorem word_ext (s : ByteArray) (a : Nat) : wordS (ByteArray.extract s a (ByteArray.size s)) 0 = wordS s a := by
  unfold wordS
  refine num_congr fun i _ => ?_
  rw [Nat.zero_add]
  by_cases h : a + i < ByteArray.size s
  · exact byte_ext s a _ i h
  · rw [byte_beyond (s := s) (by omega), byte_beyond (by rw [ByteArray.size_extract]; omega)]
theorem word_ext8 (s : ByteArray) : wordS (ByteArray.extract s 0 8) 0 = wordS s 0 := by
  unfold wordS
  refine num_congr fun i hi => ?_
  have := byte_ext s 0 8 i (by omega)
  rw [Nat.zero_add] at this ⊢
  exact this
theorem wordsTo_len (s : ByteArray) (n : Nat) : (wordsTo s n).length = n := by simp [wordsTo]
theorem wordsTo_step (s : ByteArray) (n : Nat) : wordsTo s n ++ [wordS s (8 * n)] = wordsTo s (n + 1) := by
  unfold wordsTo
  rw [List.range_succ, List.map_append]; rfl
theorem segW (w : Int) : seg (w :: List.replicate 0 0) 0 1 = [w] := rfl
theorem last_fit (s : ByteArray) : 0 ≤ wordS s (8 * (ByteArray.size s / 8)) ∧ wordS s (8 * (ByteArray.size s / 8)) < 72057594037927936 := by
  have h := num_fit s (8 * (ByteArray.size s / 8)) 7
  have e : (256 : Int) ^ 7 = 72057594037927936 := by decide
  rw [e] at h
  unfold wordS
  rw [num_more s _ 7 8 (by omega) fun i h1 h2 => byte_beyond (by omega)]
  exact h

theorem pured97 (s : ByteArray) (hp : ByteArray.size s ≤ 1000000000) : Pd97 s := by
  unfold Pd97
  simp only [eq_self, true_and, and_true, Nat.zero_add, segW, wordsTo_len, List.length_singleton, Int.toNat_natCast]
  refine ⟨by decide, 0, ⟨⟨?_, rfl, rfl⟩, by omega⟩, fun k hk hw => ?_⟩
  · rw [Nat.mul_zero]; exact ByteArray.extract_zero_size.symm
  clear hw
  have hsz : ByteArray.size (ByteArray.extract s (8 * k) (ByteArray.size s)) = ByteArray.size s - 8 * k := by rw [ByteArray.size_extract]; omega
  have hx := word_ext s (8 * k)
  by_cases h : (8 : Int) ≤ (ByteArray.size (ByteArray.extract s (8 * k) (ByteArray.size s)) : Int)
  · have h8 : 8 * k + 8 ≤ ByteArray.size s := by omega
    rw [decide_eq_true h, cond_true, word_ext8, hx]
    refine ⟨⟨by omega, h, by rw [ByteArray.size_extract]; omega, by omega, by omega⟩, ⟨by omega, h⟩, k + 1, ⟨?_, rfl, ?_⟩, by omega, by omega⟩
    · rw [hsz, ByteArray.extract_extract, show 8 * k + 8 = 8 * (k + 1) by omega]
      congr 1; omega
    · show List.drop 0 (wordsTo s k) ++ [wordS s (8 * k)] = _
      rw [List.drop_zero, wordsTo_step]
  · have hk2 : k = ByteArray.size s / 8 := by omega
    subst hk2
    rw [decide_eq_false h, cond_false, hx]
    have hl := last_fit s
    rw [or_len hl]
    refine ⟨⟨by omega, by omega, by omega⟩, rfl, ?_⟩
    show List.drop 0 (wordsTo s (ByteArray.size s / 8)) ++ [_] = _
    rw [List.drop_zero]; rfl

theorem hwd120 {x n : Int} (hw : Go.SL.allP (List.flatMap (fun a : AV => a.t.wf a.x) [⟨.int .u64, x⟩, ⟨.int .i64, n⟩] ++ List.flatMap Blk.wf [])) : 0 ≤ x ∧ x < 18446744073709551616 := by
  simp only [List.flatMap_cons, List.flatMap_nil, Ty.wf, List.append_nil, List.cons_append, List.nil_append, Go.SL.allP] at hw
  have h1 : (0 : Int) ≤ x := hw.1
  have h2 : x ≤ 18446744073709551615 := hw.2.1
  omega
theorem left_fit {x : Int} (hx : 0 ≤ x ∧ x < 18446744073709551616) : ∀ n, n ≤ 63 → 0 ≤ leftTo x n ∧ leftTo x n < 18446744073709551616 := fun n hn => by
  have := left_turn hx (n := (n : Int)) (by omega)
  rw [Int.toNat_natCast] at this
  rw [this]; exact turn_fit hx
theorem pured120 (x n : Int) (hp : 0 ≤ n ∧ n < 64) (hx : 0 ≤ x ∧ x < 18446744073709551616) : Pd120 x n := by
  unfold Pd120
  simp only [eq_self, true_and]
  refine ⟨0, ⟨⟨rfl, rfl⟩, by omega⟩, fun i hi hw => ?_⟩
  clear hw
  by_cases h : (i : Int) < n
  · rw [decide_eq_true h, cond_true]
    have hf := left_fit hx i (by omega)
    have hs : leftTo x (i + 1) = IntKind.u64.wrap (2 * leftTo x i) + (if 9223372036854775808 ≤ leftTo x i then 1 else 0) := rfl
    generalize leftTo x i = y at *
    by_cases ht : 9223372036854775808 ≤ y
    · rw [if_pos ht] at hs
      rw [decide_eq_true ht, cond_true]
      exact ⟨i + 1, ⟨by rw [hs, wrap_u64, wrap_u64]; omega, step_i (by omega)⟩, by omega, by omega⟩
    · rw [if_neg ht, Int.add_zero] at hs
      rw [decide_eq_false ht, cond_false]
      exact ⟨i + 1, ⟨hs.symm, step_i (by omega)⟩, by omega, by omega⟩
  · have : i = n.toNat := by omega
    rw [decide_eq_false h, cond_false, this]
    exact left_turn hx hp

theorem pured91 (s : ByteArray) (a : Int) (hp : 0 ≤ a ∧ a ≤ 1000000000) : Pd91 s a := by
  unfold Pd91
  simp only [eq_self, true_and]
  refine ⟨0, ⟨⟨rfl, by omega⟩, by omega⟩, fun k hk hw => ?_⟩
  clear hw
  by_cases h : (0 : Int) ≤ 7 - (k : Int)
  · have hk7 : k ≤ 7 := by omega
    have e1 : IntKind.i64.wrap (a + (7 - (k : Int))) = a + (7 - (k : Int)) := w64 (by omega) (by omega)
    have e2 : (a + (7 - (k : Int))).toNat = a.toNat + 8 - (k + 1) := by omega
    have e3 : IntKind.i64.wrap (7 - (k : Int) - 1) = 7 - ((k + 1 : Nat) : Int) := by rw [w64 (by omega) (by omega)]; omega
    have hl := num_low s (a.toNat + 8 - (k + 1)) k
    rw [show a.toNat + 8 - (k + 1) + 1 = a.toNat + 8 - k by omega] at hl
    have hb := byte_fit s (a.toNat + 8 - (k + 1))
    have hn := num_fit s (a.toNat + 8 - (k + 1)) (k + 1)
    have hp8 : (256 : Int) ^ (k + 1) ≤ 18446744073709551616 := by
      have h1 : 256 ^ (k + 1) ≤ 256 ^ 8 := Nat.pow_le_pow_right (by decide) (by omega)
      have h2 : (256 : Int) ^ (k + 1) = ((256 ^ (k + 1) : Nat) : Int) := by simp
      have h3 : (256 : Nat) ^ 8 = 18446744073709551616 := by decide
      rw [h2]; omega
    rw [decide_eq_true h, cond_true, e1, e2, e3]
    have hbe : ByteArray.size s ≤ a.toNat + 8 - (k + 1) → byteAt s (a.toNat + 8 - (k + 1)) = 0 := fun h => byte_beyond h
    generalize byteAt s (a.toNat + 8 - (k + 1)) = b at *
    generalize hN : numTo s (a.toNat + 8 - (k + 1)) (k + 1) = N at *
    have hn2 := num_fit s (a.toNat + 8 - k) k
    generalize numTo s (a.toNat + 8 - k) k = M at *
    by_cases h2 : a + (7 - (k : Int)) < (ByteArray.size s : Int)
    · rw [decide_eq_true h2, cond_true]
      refine ⟨⟨by omega, h2⟩, k + 1, ⟨?_, rfl⟩, by omega, by omega⟩
      rw [hN, w_u64 (x := 256 * M) (by omega) (by omega), w_u64 (x := b) (by omega) (by omega), w_u64 (by omega) (by omega)]
      exact hl.symm
    · rw [decide_eq_false h2, cond_false]
      have hb0 := hbe (by omega)
      refine ⟨k + 1, ⟨?_, rfl⟩, by omega, by omega⟩
      rw [hN, w_u64 (x := 256 * M) (by omega) (by omega)]
      omega
  · have : k = 8 := by omega
    subst this
    rw [decide_eq_false h, cond_false]
    unfold wordS
    rw [Nat.add_sub_cancel]

theorem pured92 (s : ByteArray) (hp : ByteArray.size s ≤ 1000000000) : Pd92 s := by
  unfold Pd92
  have d := tdm (ByteArray.size s : Int) (k := 8) (by decide)
  have d2 := tdm (ByteArray.size s : Int) (k := 256) (by decide)
  have e1 : IntKind.i64.wrap ((ByteArray.size s : Int).tdiv 8) = ((ByteArray.size s / 8 : Nat) : Int) := by rw [w64 (by omega) (by omega)]; omega
  have e2 : IntKind.i64.wrap (8 * ((ByteArray.size s / 8 : Nat) : Int)) = ((8 * (ByteArray.size s / 8) : Nat) : Int) := by rw [w64 (by omega) (by omega)]; omega
  have e3 : IntKind.u64.wrap ((ByteArray.size s : Int).tmod 256) = ((ByteArray.size s % 256 : Nat) : Int) := by rw [w_u64 (by omega) (by omega)]; omega
  have hl := last_fit s
  have e4 : IntKind.u64.wrap (((ByteArray.size s % 256 : Nat) : Int) * 72057594037927936) = ((ByteArray.size s % 256 : Nat) : Int) * 72057594037927936 := w_u64 (by omega) (by omega)
  have e5 : IntKind.u64.wrap (wordS s (8 * (ByteArray.size s / 8)) + ((ByteArray.size s % 256 : Nat) : Int) * 72057594037927936) = lastW s := w_u64 (by omega) (by omega)
  simp only [eq_self, true_and, and_true, Nat.zero_add, segW, wordsTo_len, List.length_singleton, e1, e2, e3, e4, Int.toNat_natCast, e5]
  refine ⟨by decide, 0, ⟨⟨rfl, rfl, rfl⟩, by omega⟩, fun k hk hw => ?_⟩
  clear hw
  by_cases h : (k : Int) < ((ByteArray.size s / 8 : Nat) : Int)
  · have e6 : IntKind.i64.wrap (8 * (k : Int)) = ((8 * k : Nat) : Int) := by rw [w64 (by omega) (by omega)]; omega
    rw [decide_eq_true h, cond_true, e6, Int.toNat_natCast]
    refine ⟨⟨⟨by omega, by omega⟩, by omega, by omega⟩, k + 1, ⟨rfl, by rw [w64 (by omega) (by omega)]; omega, ?_⟩, by omega, by omega⟩
    show List.drop 0 (wordsTo s k) ++ [wordS s (8 * k)] = _
    rw [List.drop_zero, wordsTo_step]
  · have hk2 : k = ByteArray.size s / 8 := by omega
    rw [decide_eq_false h, cond_false, hk2]
    refine ⟨⟨by omega, by omega⟩, by decide, ⟨by omega, by omega⟩, rfl, ?_⟩
    show List.drop 0 (wordsTo s (ByteArray.size s / 8)) ++ [lastW s] = _
    rw [List.drop_zero]; rfl

theorem hwd93 {v : List Int} (hw : Go.SL.allP (List.flatMap (fun a : AV => a.t.wf a.x) [⟨.arr 4 (.int .u64), v⟩] ++ List.flatMap Blk.wf [])) : v.length = 4 := by
  simp only [List.flatMap_cons, List.flatMap_nil, Ty.wf, List.append_nil, Go.SL.allP] at hw
  exact hw.1
theorem pured93 (v : List Int) (hl : v.length = 4) : Pd93 v := by
  unfold Pd93
  match v, hl with
  | [a, b, c, d], _ =>
    simp only
    refine ⟨by decide, ⟨by decide, by decide⟩, ⟨by decide, by decide⟩, ⟨by decide, by decide⟩, ⟨by decide, by decide⟩, ⟨by decide, by decide⟩, ⟨by decide, by decide⟩, rfl⟩
end Go.SL.A

/- Functions do what they are held to do. -/
namespace Go.SL.A
open Go Go.SL Go.SL.S
theorem sndd97 : Sound Go.Proofs.Tryd.prog Gd97 := sndd95.add ⟨_, Go.Proofs.Tryd.func90, by kernel_rfl, by kernel_rfl⟩ (by
  intro args ins out h hp
  unfold spd97 at h
  split at h
  · rename_i s
    cases h
    exact vcFun_ok (C := Cd97) good sndd95 Meth.none mix Go.Proofs.Tryd.func90 (annd97 s) (fun hw => by rw [← vcd97 s]; exact pured97 s hp)
  · cases h)

theorem sndd120 : Sound Go.Proofs.Tryd.prog Gd120 := sndd97.add ⟨_, Go.Proofs.Tryd.func156, by kernel_rfl, by kernel_rfl⟩ (by
  intro args ins out h hp
  unfold spd120 at h
  split at h
  · rename_i x n
    cases h
    exact vcFun_ok (C := Cd120) good sndd97 Meth.none mix Go.Proofs.Tryd.func156 (annd120 x n) (fun hw => by rw [← vcd120 x n]; exact pured120 x n hp (hwd120 hw))
  · cases h)

theorem sndd91 : Sound Go.Proofs.Tryd.prog Gd91 := sndd120.add ⟨_, Go.Proofs.Tryd.func131, by kernel_rfl, by kernel_rfl⟩ (by
  intro args ins out h hp
  unfold spd91 at h
  split at h
  · rename_i s a
    cases h
    exact vcFun_ok (C := Cd91) good sndd120 Meth.none mix Go.Proofs.Tryd.func131 (annd91 s a) (fun hw => by rw [← vcd91 s a]; exact pured91 s a hp)
  · cases h)

theorem sndd92 : Sound Go.Proofs.Tryd.prog Gd92 := sndd91.add ⟨_, Go.Proofs.Tryd.func132, by kernel_rfl, by kernel_rfl⟩ (by
  intro args ins out h hp
  unfold spd92 at h
  split at h
  · rename_i s
    cases h
    exact vcFun_ok (C := Cd92) good sndd91 Meth.none mix Go.Proofs.Tryd.func132 (annd92 s) (fun hw => by rw [← vcd92 s]; exact pured92 s hp)
  · cases h)

theorem sndd93 : Sound Go.Proofs.Tryd.prog Gd93 := sndd92.add ⟨_, Go.Proofs.Tryd.func133, by kernel_rfl, by kernel_rfl⟩ (by
  intro args ins out h hp
  unfold spd93 at h
  split at h
  · rename_i v
    cases h
    exact vcFun_ok (C := Cd93) good sndd92 Meth.none mix Go.Proofs.Tryd.func133 (annd93 v) (fun hw => by rw [← vcd93 v]; exact pured93 v (hwd93 hw))
  · cases h)

end Go.SL.A

/- Functions and what they are held to do: bound to their code. -/
namespace Go.SL.A
open Go Go.SL Go.SL.S
set_option maxRecDepth 100000
noncomputable def Cd76 : Ctx := ⟨Go.Proofs.Tryd.prog, D, Gd93, (fun _ _ => none), fun _ => []⟩
def annd76 (k : List Int) (s : ByteArray) : Nat → St → Option Ann := fun _ _ => some ⟨Nat, [7, 8, 36, 37], [2], fun i => [(38, .v (.int .i64) (i : Int))], fun i => [(1, some ⟨false, true, .arr 4 (.int .u64), [sipS k s i]⟩)], fun i => i ≤ ByteArray.size s / 8 + 1, fun i => ByteArray.size s / 8 + 1 - i⟩
def outd76 (k : List Int) (s : ByteArray) : COut := ⟨[ByteArray.size s ≤ 1000000000], .v (.int .u64) (sipF k s), [], []⟩
def spd76 : Spec := fun args ins => match args, ins with
  | [⟨.arr 16 (.int .u8), k⟩, ⟨.str, s⟩], [] => some (outd76 k s)
  | _, _ => none
def Gd76 := addG Gd93 47 spd76
def Pd76 (k : List Int) (s : ByteArray) : Prop :=
 ((0:Int)≤8∧8≤(↑ (16:Nat):Int)∧(16:Nat)≤9223372036854775807∧8≤List.length k∧ByteArray.size (bytesOf (seg k (0:Nat) (8:Nat)))≤8∧(0:Int)≤8∧8≤(↑ (16:Nat):Int)∧(16:Nat)≤9223372036854775807∧16≤List.length k∧ByteArray.size (bytesOf (seg k
 (8:Nat) (8:Nat)))≤8)∧(((0:Int)≤0∧0<(↑ (4:Nat):Int))∧(0:Nat)<4∧((0:Int)≤1∧1<(↑ (4:Nat):Int))∧(1:Nat)<4∧((0:Int)≤2∧2<(↑ (4:Nat):Int))∧(2:Nat)<4∧((0:Int)≤3∧3<(↑ (4:Nat):Int))∧(3:Nat)<4)∧ByteArray.size s≤1000000000∧∃ (x:Nat),((0=0∧0=0∧0=0∧ByteArray.size
 s / 8+1=ByteArray.size s / 8+1∧(↑ (ByteArray.size s / 8+1):Int)=(↑ (ByteArray.size s / 8+1):Int)∧0=(x:Int)∧ixor .u64 (wordS (bytesOf (seg k (0:Nat) (8:Nat))) (0:Nat)) (List.getD sgL (0:Nat) (0:Int)) :: List.set (List.set (List.set (List.replicate
 (nat_lit 3) (0:Int)) (nat_lit 0) (ixor .u64 (wordS (bytesOf (seg k (8:Nat) (8:Nat))) (0:Nat)) (List.getD sgL (1:Nat) (0:Int)))) (nat_lit 1) (ixor .u64 (wordS (bytesOf (seg k (0:Nat) (8:Nat))) (0:Nat)) (List.getD sgL (2:Nat) (0:Int))))
 (nat_lit 2) (ixor .u64 (wordS (bytesOf (seg k (8:Nat) (8:Nat))) (0:Nat)) (List.getD sgL (3:Nat) (0:Int)))=sipS k s x∧false=false∧wordsF s=wordsF s∧false=false)∧x≤ByteArray.size s / 8+1)∧∀ (x:Nat),x≤ByteArray.size s / 8+1→(IntKind.min
 .i64≤(x:Int)∧(x:Int)≤IntKind.max .i64∧∀ (y:List Int),List.Mem y [sipS k s x]→List.length y=4∧∀ (y_1:Int),List.Mem y_1 y→IntKind.min .u64≤y_1∧y_1≤IntKind.max .u64)→bif decide ((x:Int)<(↑ (ByteArray.size s / 8+1):Int)) then ((0≤(x:Int)∧(x:Int)<(↑
 (ByteArray.size s / 8+1):Int))∧0+(x:Int).toNat<List.length (wordsF s))∧(((0:Int)≤3∧3<(↑ (4:Nat):Int))∧(3:Nat)<4∧((0:Int)≤3∧3<(↑ (4:Nat):Int))∧(3:Nat)<4)∧((0:Int)≤2∧(2:Int)≤1000)∧(((0:Int)≤0∧0<(↑ (4:Nat):Int))∧(0:Nat)<4∧((0:Int)≤0∧0<(↑
 (4:Nat):Int))∧(0:Nat)<4)∧∃ (y:Nat),(0=0∧0=0∧0=0∧ByteArray.size s / 8+1=ByteArray.size s / 8+1∧(↑ (ByteArray.size s / 8+1):Int)=(↑ (ByteArray.size s / 8+1):Int)∧IntKind.wrap .i64 ((x:Int)+1)=(y:Int)∧List.set (rndN (List.set (sipS k s
 x) (3:Nat) (ixor .u64 (List.getD (sipS k s x) (3:Nat) (0:Int)) (List.getD (wordsF s) (0+(x:Int).toNat) (0:Int)))) (2:Nat)) (0:Nat) (ixor .u64 (List.getD (rndN (List.set (sipS k s x) (3:Nat) (ixor .u64 (List.getD (sipS k s x) (3:Nat)
 (0:Int)) (List.getD (wordsF s) (0+(x:Int).toNat) (0:Int)))) (2:Nat)) (0:Nat) (0:Int)) (List.getD (wordsF s) (0+(x:Int).toNat) (0:Int)))=sipS k s y∧false=false∧wordsF s=wordsF s∧false=false)∧y≤ByteArray.size s / 8+1∧ByteArray.size s
 / 8+1 - y<ByteArray.size s / 8+1 - x else (((0:Int)≤2∧2<(↑ (4:Nat):Int))∧(2:Nat)<4∧((0:Int)≤2∧2<(↑ (4:Nat):Int))∧(2:Nat)<4)∧((0:Int)≤4∧(4:Int)≤1000)∧(((0:Int)≤0∧0<(↑ (4:Nat):Int))∧(0:Nat)<4∧((0:Int)≤1∧1<(↑ (4:Nat):Int))∧(1:Nat)<4∧((0:Int)≤2∧2<(↑
 (4:Nat):Int))∧(2:Nat)<4∧((0:Int)≤3∧3<(↑ (4:Nat):Int))∧(3:Nat)<4)∧ixor .u64 (ixor .u64 (ixor .u64 (List.getD (rndN (List.set (sipS k s x) (2:Nat) (ixor .u64 (List.getD (sipS k s x) (2:Nat) (0:Int)) (255:Int))) (4:Nat)) (0:Nat) (0:Int))
 (List.getD (rndN (List.set (sipS k s x) (2:Nat) (ixor .u64 (List.getD (sipS k s x) (2:Nat) (0:Int)) (255:Int))) (4:Nat)) (1:Nat) (0:Int))) (List.getD (rndN (List.set (sipS k s x) (2:Nat) (ixor .u64 (List.getD (sipS k s x) (2:Nat) (0:Int))
 (255:Int))) (4:Nat)) (2:Nat) (0:Int))) (List.getD (rndN (List.set (sipS k s x) (2:Nat) (ixor .u64 (List.getD (sipS k s x) (2:Nat) (0:Int)) (255:Int))) (4:Nat)) (3:Nat) (0:Int))=sipF k s
theorem vcd76 (k : List Int) (s : ByteArray) : Pd76 k s = vcFun Cd76 (annd76 k s) Go.Proofs.Tryd.f47 [⟨.arr 16 (.int .u8), k⟩, ⟨.str, s⟩] [] (outd76 k s) := by kernel_rfl

noncomputable def Cd73 : Ctx := ⟨Go.Proofs.Tryd.prog, D, Gd76, (fun _ _ => none), fun _ => []⟩
def annd73 (k : List Int) (s : ByteArray) : Nat → St → Option Ann := fun _ _ => some ⟨Nat, [8, 9], [2], fun i => [(10, .v (.int .i64) (i : Int))], fun i => [(1, some ⟨false, true, .arr 4 (.int .u64), [sipS k s i]⟩)], fun i => i ≤ ByteArray.size s / 8 + 1, fun i => ByteArray.size s / 8 + 1 - i⟩
def outd73 (k : List Int) (s : ByteArray) : COut := ⟨[ByteArray.size s ≤ 1000000000], .v (.int .u64) (sipF k s), [], []⟩
def spd73 : Spec := fun args ins => match args, ins with
  | [⟨.arr 16 (.int .u8), k⟩, ⟨.str, s⟩], [] => some (outd73 k s)
  | _, _ => none
def Gd73 := addG Gd76 94 spd73
def Pd73 (k : List Int) (s : ByteArray) : Prop :=
 ((16:Nat)≤9223372036854775807∧16≤List.length k)∧(((0:Int)≤0∧(0:Int)≤1000000000)∧(0:Int)≤8∧(8:Int)≤1000000000)∧ByteArray.size s≤1000000000∧∃ (x:Nat),((0=0∧0=0∧ByteArray.size s / 8+1=ByteArray.size s / 8+1∧0=(x:Int)∧ixor .u64 (wordS (bytesOf
 (seg k (0:Nat) (16:Nat))) (0:Nat)) (8317987319222330741:Int) :: List.set (List.set (List.set (List.replicate (nat_lit 3) (0:Int)) (nat_lit 0) (ixor .u64 (wordS (bytesOf (seg k (0:Nat) (16:Nat))) (8:Nat)) (7237128888997146477:Int)))
 (nat_lit 1) (ixor .u64 (wordS (bytesOf (seg k (0:Nat) (16:Nat))) (0:Nat)) (7816392313619706465:Int))) (nat_lit 2) (ixor .u64 (wordS (bytesOf (seg k (0:Nat) (16:Nat))) (8:Nat)) (8387220255154660723:Int))=sipS k s x∧false=false∧wordsF
 s=wordsF s∧false=false)∧x≤ByteArray.size s / 8+1)∧∀ (x:Nat),x≤ByteArray.size s / 8+1→(IntKind.min .i64≤(x:Int)∧(x:Int)≤IntKind.max .i64∧∀ (y:List Int),List.Mem y [sipS k s x]→List.length y=4∧∀ (y_1:Int),List.Mem y_1 y→IntKind.min .u64≤y_1∧y_1≤IntKind.max
 .u64)→bif decide ((x:Int)<(↑ (ByteArray.size s / 8+1):Int)) then (((0:Int)≤3∧3<(↑ (4:Nat):Int))∧(3:Nat)<4∧(0≤(x:Int)∧(x:Int)<(↑ (ByteArray.size s / 8+1):Int))∧0+(x:Int).toNat<List.length (wordsF s)∧((0:Int)≤3∧3<(↑ (4:Nat):Int))∧(3:Nat)<4)∧(((0:Int)≤0∧0<(↑
 (4:Nat):Int))∧(0:Nat)<4∧(0≤(x:Int)∧(x:Int)<(↑ (ByteArray.size s / 8+1):Int))∧0+(x:Int).toNat<List.length (wordsF s)∧((0:Int)≤0∧0<(↑ (4:Nat):Int))∧(0:Nat)<4)∧∃ (y:Nat),(0=0∧0=0∧ByteArray.size s / 8+1=ByteArray.size s / 8+1∧IntKind.wrap
 .i64 ((x:Int)+1)=(y:Int)∧List.set (rndF (rndF (List.set (sipS k s x) (3:Nat) (ixor .u64 (List.getD (sipS k s x) (3:Nat) (0:Int)) (List.getD (wordsF s) (0+(x:Int).toNat) (0:Int)))))) (0:Nat) (ixor .u64 (List.getD (rndF (rndF (List.set
 (sipS k s x) (3:Nat) (ixor .u64 (List.getD (sipS k s x) (3:Nat) (0:Int)) (List.getD (wordsF s) (0+(x:Int).toNat) (0:Int)))))) (0:Nat) (0:Int)) (List.getD (wordsF s) (0+(x:Int).toNat) (0:Int)))=sipS k s y∧false=false∧wordsF s=wordsF
 s∧false=false)∧y≤ByteArray.size s / 8+1∧ByteArray.size s / 8+1 - y<ByteArray.size s / 8+1 - x else (((0:Int)≤2∧2<(↑ (4:Nat):Int))∧(2:Nat)<4∧((0:Int)≤2∧2<(↑ (4:Nat):Int))∧(2:Nat)<4)∧(((0:Int)≤0∧0<(↑ (4:Nat):Int))∧(0:Nat)<4∧((0:Int)≤1∧1<(↑
 (4:Nat):Int))∧(1:Nat)<4∧((0:Int)≤2∧2<(↑ (4:Nat):Int))∧(2:Nat)<4∧((0:Int)≤3∧3<(↑ (4:Nat):Int))∧(3:Nat)<4)∧ixor .u64 (ixor .u64 (ixor .u64 (List.getD (rndF (rndF (rndF (rndF (List.set (sipS k s x) (2:Nat) (ixor .u64 (List.getD (sipS k
 s x) (2:Nat) (0:Int)) (255:Int))))))) (0:Nat) (0:Int)) (List.getD (rndF (rndF (rndF (rndF (List.set (sipS k s x) (2:Nat) (ixor .u64 (List.getD (sipS k s x) (2:Nat) (0:Int)) (255:Int))))))) (1:Nat) (0:Int))) (List.getD (rndF (rndF (rndF
 (rndF (List.set (sipS k s x) (2:Nat) (ixor .u64 (List.getD (sipS k s x) (2:Nat) (0:Int)) (255:Int))))))) (2:Nat) (0:Int))) (List.getD (rndF (rndF (rndF (rndF (List.set (sipS k s x) (2:Nat) (ixor .u64 (List.getD (sipS k s x) (2:Nat)
 (0:Int)) (255:Int))))))) (3:Nat) (0:Int))=sipF k s
theorem vcd73 (k : List Int) (s : ByteArray) : Pd73 k s = vcFun Cd73 (annd73 k s) Go.Proofs.Tryd.f94 [⟨.arr 16 (.int .u8), k⟩, ⟨.str, s⟩] [] (outd73 k s) := by kernel_rfl

end Go.SL.A

/- The keyed sum. -/
namespace Go.SL.A
open Go Go.SL Go.SL.S
set_option maxRecDepth 100000

theorem hwd76 {k : List Int} {s : ByteArray} (hw : Go.SL.allP (List.flatMap (fun a : AV => a.t.wf a.x) [⟨.arr 16 (.int .u8), k⟩, ⟨.str, s⟩] ++ List.flatMap Blk.wf [])) : k.length = 16 ∧ ∀ x ∈ k, 0 ≤ x ∧ x ≤ 255 := by
  simp only [List.flatMap_cons, List.flatMap_nil, Ty.wf, List.append_nil, List.cons_append, List.nil_append, Go.SL.allP] at hw
  exact ⟨hw.1, fun x hx => hw.2.1 x hx⟩
theorem seg_mem {k : List Int} {a n : Nat} {x : Int} (h : x ∈ seg k a n) : x ∈ k := by
  unfold seg at h
  exact List.mem_of_mem_drop (List.mem_of_mem_take h)
theorem key_word {k : List Int} (hb : ∀ x ∈ k, 0 ≤ x ∧ x ≤ 255) (a : Nat) : wordS (bytesOf (seg k a 8)) 0 = wordS (bytesOf k) a := by
  unfold wordS
  refine num_congr fun i hi => ?_
  rw [byte_of (fun x hx => hb x (seg_mem hx)), byte_of hb, Nat.zero_add]
  unfold seg
  rw [List.getD_eq_getElem?_getD, List.getElem?_take, if_pos hi, List.getElem?_drop, ← List.getD_eq_getElem?_getD]
theorem words_len (s : ByteArray) : (wordsF s).length = ByteArray.size s / 8 + 1 := by
  unfold wordsF; rw [List.length_append, wordsTo_len]; rfl
theorem sip_step (k : List Int) (s : ByteArray) {i : Nat} (h : i < ByteArray.size s / 8 + 1) : takeW (sipS k s i) ((wordsF s).getD i 0) = sipS k s (i + 1) := by
  unfold sipS
  rw [take_snoc' (0 : Int) (by rw [words_len]; exact h), List.foldl_append, List.foldl_cons, List.foldl_nil]
theorem sip_end (k : List Int) (s : ByteArray) : sumV (rndN (endA (sipS k s (ByteArray.size s / 8 + 1))) 4) = sipF k s := by
  unfold sipS sipF
  rw [List.take_of_length_le (by rw [words_len]; exact Nat.le_refl _)]
theorem init_sip (k : List Int) (s : ByteArray) : initS k = sipS k s 0 := by
  unfold sipS
  rw [List.take_zero, List.foldl_nil]
theorem set3 (a b c d : Int) : a :: List.set (List.set (List.set (List.replicate 3 0) 0 b) 1 c) 2 d = [a, b, c, d] := rfl
theorem sg_0 : List.getD sgL 0 0 = 8317987319222330741 := rfl
theorem sg_1 : List.getD sgL 1 0 = 7237128888997146477 := rfl
theorem sg_2 : List.getD sgL 2 0 = 7816392313619706465 := rfl
theorem sg_3 : List.getD sgL 3 0 = 8387220255154660723 := rfl
theorem take_eqN (v : List Int) (w : Int) : List.set (rndN (List.set v 3 (ixor .u64 (List.getD v 3 0) w)) 2) 0 (ixor .u64 (List.getD (rndN (List.set v 3 (ixor .u64 (List.getD v 3 0) w)) 2) 0 0) w) = takeW v w := by
  unfold takeW takeB takeA
  exact rfl
theorem rnd2 (v : List Int) : rndF (rndF v) = rndN v 2 := by rw [rndN, rndN, rndN]
theorem rnd4 (v : List Int) : rndF (rndF (rndF (rndF v))) = rndN v 4 := by rw [rndN, rndN, rndN, rndN, rndN]
theorem sum_eqN (v : List Int) : ixor .u64 (ixor .u64 (ixor .u64 (List.getD (rndN (List.set v 2 (ixor .u64 (List.getD v 2 0) 255)) 4) 0 0) (List.getD (rndN (List.set v 2 (ixor .u64 (List.getD v 2 0) 255)) 4) 1 0)) (List.getD (rndN (List.set v 2 (ixor .u64 (List.getD v 2 0) 255)) 4) 2 0)) (List.getD (rndN (List.set v 2 (ixor .u64 (List.getD v 2 0) 255)) 4) 3 0) = sumV (rndN (endA v) 4) := by
  unfold endA sumV
  exact rfl

theorem pured76 (k : List Int) (s : ByteArray) (hp : ByteArray.size s ≤ 1000000000) (hk : k.length = 16 ∧ ∀ x ∈ k, 0 ≤ x ∧ x ≤ 255) : Pd76 k s := by
  obtain ⟨hl, hb⟩ := hk
  unfold Pd76
  have s1 : ByteArray.size (bytesOf (seg k 0 8)) ≤ 8 := by rw [size_of]; unfold seg; rw [List.length_take]; omega
  have s2 : ByteArray.size (bytesOf (seg k 8 8)) ≤ 8 := by rw [size_of]; unfold seg; rw [List.length_take]; omega
  simp only [eq_self, true_and, and_true, Int.toNat_natCast, Nat.zero_add, words_len]
  refine ⟨by and_intros <;> omega, by and_intros <;> omega, hp, 0, ⟨⟨rfl, ?_⟩, by omega⟩, fun i hi hw => ?_⟩
  · rw [key_word hb, key_word hb, sg_0, sg_1, sg_2, sg_3, ← init_sip]
    unfold initS
    exact set3 _ _ _ _
  clear hw
  by_cases h : (i : Int) < ((ByteArray.size s / 8 + 1 : Nat) : Int)
  · rw [decide_eq_true h, cond_true]
    exact ⟨by and_intros <;> omega, by and_intros <;> omega, by and_intros <;> omega, by and_intros <;> omega, i + 1, ⟨by rw [w64 (by omega) (by omega)]; omega, (take_eqN _ _).trans (sip_step k s (by omega))⟩, by omega, by omega⟩
  · have : i = ByteArray.size s / 8 + 1 := by omega
    subst this
    rw [decide_eq_false h, cond_false]
    exact ⟨by and_intros <;> omega, by and_intros <;> omega, by and_intros <;> omega, (sum_eqN _).trans (sip_end k s)⟩

theorem pured73 (k : List Int) (s : ByteArray) (hp : ByteArray.size s ≤ 1000000000) (hk : k.length = 16 ∧ ∀ x ∈ k, 0 ≤ x ∧ x ≤ 255) : Pd73 k s := by
  obtain ⟨hl, hb⟩ := hk
  unfold Pd73
  have e1 : seg k 0 16 = k := by unfold seg; rw [List.drop_zero, List.take_of_length_le (by omega)]
  simp only [eq_self, true_and, and_true, Int.toNat_natCast, Nat.zero_add, words_len, e1]
  refine ⟨by and_intros <;> omega, by and_intros <;> omega, hp, 0, ⟨⟨rfl, ?_⟩, by omega⟩, fun i hi hw => ?_⟩
  · rw [← init_sip]
    unfold initS
    exact set3 _ _ _ _
  clear hw
  by_cases h : (i : Int) < ((ByteArray.size s / 8 + 1 : Nat) : Int)
  · rw [decide_eq_true h, cond_true]
    rw [rnd2]
    exact ⟨by and_intros <;> omega, by and_intros <;> omega, i + 1, ⟨by rw [w64 (by omega) (by omega)]; omega, (take_eqN _ _).trans (sip_step k s (by omega))⟩, by omega, by omega⟩
  · have : i = ByteArray.size s / 8 + 1 := by omega
    subst this
    rw [decide_eq_false h, cond_false]
    rw [rnd4]
    exact ⟨by and_intros <;> omega, by and_intros <;> omega, (sum_eqN _).trans (sip_end k s)⟩
end Go.SL.A

/- Functions do what they are held to do. -/
namespace Go.SL.A
open Go Go.SL Go.SL.S
theorem sndd76 : Sound Go.Proofs.Tryd.prog Gd76 := sndd93.add ⟨_, Go.Proofs.Tryd.func47, by kernel_rfl, by kernel_rfl⟩ (by
  intro args ins out h hp
  unfold spd76 at h
  split at h
  · rename_i k s
    cases h
    exact vcFun_ok (C := Cd76) good sndd93 Meth.none mix Go.Proofs.Tryd.func47 (annd76 k s) (fun hw => by rw [← vcd76 k s]; exact pured76 k s hp (hwd76 hw))
  · cases h)

theorem sndd73 : Sound Go.Proofs.Tryd.prog Gd73 := sndd76.add ⟨_, Go.Proofs.Tryd.func94, by kernel_rfl, by kernel_rfl⟩ (by
  intro args ins out h hp
  unfold spd73 at h
  split at h
  · rename_i k s
    cases h
    exact vcFun_ok (C := Cd73) good sndd76 Meth.none mix Go.Proofs.Tryd.func94 (annd73 k s) (fun hw => by rw [← vcd73 k s]; exact pured73 k s hp (hwd76 hw))
  · cases h)

end Go.SL.A

/- A bit of a number. -/
namespace Go.SL.S
open Go Go.SL
def bitX (x : Int) (j : Nat) : Bool := decide (x / 2 ^ j % 2 = 1)
end Go.SL.S
namespace Go.SL.A
open Go Go.SL Go.SL.S
theorem bit_shr {x : Int} (hx : 0 ≤ x ∧ x ≤ 18446744073709551615) {i : Nat} (hi : i < 64) : decide (iand .u64 (ishr .u64 x (i : Int)) 1 = 1) = bitX x i := by
  obtain ⟨n, rfl⟩ : ∃ n : Nat, x = n := ⟨x.toNat, by omega⟩
  have e1 : ishr .u64 (n : Int) (i : Int) = ((n / 2 ^ i : Nat) : Int) := by
    unfold ishr
    have : min ((i : Int).toNat) IntKind.u64.bits = i := by
      have : IntKind.u64.bits = 64 := rfl
      omega
    rw [this, Int.fdiv_eq_ediv_of_nonneg _ (by exact Int.pow_nonneg (by decide))]
    simp
  have hq : n / 2 ^ i ≤ n := Nat.div_le_self _ _
  have e2 : ∀ m : Nat, m < 18446744073709551616 → iand .u64 (m : Int) 1 = ((m % 2 : Nat) : Int) := fun m hm => by
    unfold iand
    have h1 : (BitVec.ofInt IntKind.u64.bits (m : Int) &&& BitVec.ofInt IntKind.u64.bits 1).toNat = m % 2 := by
      rw [BitVec.toNat_and, BitVec.ofInt_natCast, BitVec.toNat_ofNat]
      have e : (2 : Nat) ^ IntKind.u64.bits = 18446744073709551616 := by decide
      have e1 : (BitVec.ofInt IntKind.u64.bits 1).toNat = 1 := by decide
      rw [e, e1, Nat.mod_eq_of_lt hm, Nat.and_one_is_mod]
    rw [h1]
    have : IntKind.u64.wrap ((m % 2 : Nat) : Int) = ((m % 2 : Nat) : Int) % 18446744073709551616 := by simp [IntKind.wrap, IntKind.bits, IntKind.signed]
    rw [this]; omega
  rw [e1, e2 _ (by omega)]
  unfold bitX
  have hp : (n : Int) / 2 ^ i = ((n / 2 ^ i : Nat) : Int) := by simp
  rw [hp]
  congr 1

end Go.SL.A

/- What a key makes of a number: plain functions. -/
namespace Go.SL.S
open Go Go.SL
def nbytes (n : Int) : List Int := (List.range 8).map fun i => n % 18446744073709551616 / 256 ^ i % 256
def numK (k : List Int) (sign n : Int) : Int := sipF k (bytesOf (sign :: nbytes n))
def iotaI (n : Nat) : List Int := (List.range n).map fun i : Nat => (i : Int)
def swpI (l : List Int) (i j : Nat) : List Int := List.set (List.set l i (List.getD l j 0)) j (List.getD l i 0)
def ordTo (k : List Int) (sign : Int) (n : Nat) : Nat → List Int
  | 0 => iotaI n
  | m + 1 => swpI (ordTo k sign n m) (n - 1 - m) (numK k sign ((n - 1 - m : Nat) : Int) % ((n - m : Nat) : Int)).toNat
def ordK (k : List Int) (sign : Int) (n : Nat) : List Int := ordTo k sign n (n - 1)
def bandK (k : List Int) (f : Int) : Int := (ordK k (128 + f % 1016 / 8) 8).getD (f % 1016 % 8).toNat 0
def chipK (x : Int) : List Int := (List.range 4).map fun i => if bitX x i then -1 else 1
def chipsK (k : List Int) (f : Int) : List Int := chipK (numK k 99 (f % 1016))
end Go.SL.S

/- Functions and what they are held to do: bound to their code. -/
namespace Go.SL.A
open Go Go.SL Go.SL.S
set_option maxRecDepth 100000
noncomputable def Cd109 : Ctx := ⟨Go.Proofs.Tryd.prog, D, Gd73, (fun _ _ => none), fun _ => []⟩
def annd109 (_i _x : Int) : Nat → St → Option Ann := fun _ _ => none
def outd109 (i x : Int) : COut := ⟨[0 ≤ i ∧ i < 64], .v .bool (bitX x i.toNat), [], []⟩
def spd109 : Spec := fun args ins => match args, ins with
  | [⟨.int .i64, i⟩, ⟨.ref .ptr, .ptr 0 (.int .u64) [0]⟩], [⟨false, true, .int .u64, [x]⟩] => some (outd109 i x)
  | _, _ => none
def Gd109 := addG Gd73 135 spd109
def Pd109 (i x : Int) : Prop :=
 0≤i∧decide (iand .u64 (ishr .u64 x i) (1:Int)=1)=bitX x i.toNat∧x=x∧false=false
theorem vcd109 (i x : Int) : Pd109 i x = vcFun Cd109 (annd109 i x) Go.Proofs.Tryd.f135 [⟨.int .i64, i⟩, ⟨.ref .ptr, .ptr 0 (.int .u64) [0]⟩] [⟨false, true, .int .u64, [x]⟩] (outd109 i x) := by kernel_rfl

noncomputable def Cd81 : Ctx := ⟨Go.Proofs.Tryd.prog, D, Gd109, (fun _ _ => none), fun _ => []⟩
def annd81 (_x : Int) : Nat → St → Option Ann := fun _ _ => none
def outd81 (x : Int) : COut := ⟨[], .v (.ref .func) (.func (.func 135) [] [.ptr 0 (.int .u64) [0]]), [], [⟨false, true, .int .u64, [x]⟩]⟩
def spd81 : Spec := fun args ins => match args, ins with
  | [⟨.int .u64, x⟩], [] => some (outd81 x)
  | _, _ => none
def Gd81 := addG Gd109 99 spd81
def Pd81 (x : Int) : Prop :=
 0=0∧x=x∧false=false
theorem vcd81 (x : Int) : Pd81 x = vcFun Cd81 (annd81 x) Go.Proofs.Tryd.f99 [⟨.int .u64, x⟩] [] (outd81 x) := by kernel_rfl

noncomputable def Cd82 : Ctx := ⟨Go.Proofs.Tryd.prog, D, Gd81, (fun _ _ => none), fun _ => []⟩
def annd82 (_k : List Int) (s n : Int) : Nat → St → Option Ann := fun _ _ => some ⟨Nat, [2, 3], [0], fun i => [(11, .v (.int .i64) (i : Int)), (7, .v (.ref .slice) (.slice 2 (.int .u8) [] 0 (i + 1)))], fun i => [(2, some ⟨false, false, .int .u8, s :: (nbytes n).take i⟩)], fun i => i ≤ 8, fun i => 8 - i⟩
def outd82 (k : List Int) (s n : Int) : COut := ⟨[], .v (.int .u64) (numK k s n), [], []⟩
def spd82 : Spec := fun args ins => match args, ins with
  | [⟨.arr 16 (.int .u8), k⟩, ⟨.int .u8, s⟩, ⟨.int .i64, n⟩], [] => some (outd82 k s n)
  | _, _ => none
def Gd82 := addG Gd81 92 spd82
def Pd82 (k : List Int) (s n : Int) : Prop :=
 ∃ (x:Nat),((n=n∧0=0∧0=0∧1=x+1∧0=(x:Int)∧k=k∧false=false∧s :: List.replicate (nat_lit 0) (0:Int)=s :: List.take x (nbytes n)∧false=false)∧x≤8)∧∀ (x:Nat),x≤8→(IntKind.min .i64≤(x:Int)∧(x:Int)≤IntKind.max .i64∧∀ (y:Int),List.Mem y (s ::
 List.take x (nbytes n))→IntKind.min .u8≤y∧y≤IntKind.max .u8)→bif decide ((x:Int)<8) then (0≤IntKind.wrap .i64 ((8:Int) * (x:Int))∧(1:Nat)≤1∧0+(x+1)=List.length (s :: List.take x (nbytes n))∧(x+1+List.length (seg (IntKind.wrap .u8 (ishr
 .u64 (IntKind.wrap .u64 n) (IntKind.wrap .i64 ((8:Int) * (x:Int)))) :: List.replicate (nat_lit 0) (0:Int)) (0:Nat) (1:Nat))) * 1≤70368744177664)∧∃ (y:Nat),(n=n∧0=0∧0=0∧x+1+List.length (seg (IntKind.wrap .u8 (ishr .u64 (IntKind.wrap
 .u64 n) (IntKind.wrap .i64 ((8:Int) * (x:Int)))) :: List.replicate (nat_lit 0) (0:Int)) (0:Nat) (1:Nat))=y+1∧IntKind.wrap .i64 ((x:Int)+1)=(y:Int)∧k=k∧false=false∧s :: List.append (List.take x (nbytes n)) (seg (IntKind.wrap .u8 (ishr
 .u64 (IntKind.wrap .u64 n) (IntKind.wrap .i64 ((8:Int) * (x:Int)))) :: List.replicate (nat_lit 0) (0:Int)) (0:Nat) (1:Nat))=s :: List.take y (nbytes n)∧false=false)∧y≤8∧8 - y<8 - x else (0+(x+1)≤List.length (s :: List.take x (nbytes
 n))∧ByteArray.size (bytesOf (seg (s :: List.take x (nbytes n)) (0:Nat) (x+1)))≤1000000000)∧sipF k (bytesOf (seg (s :: List.take x (nbytes n)) (0:Nat) (x+1)))=numK k s n
theorem vcd82 (k : List Int) (s n : Int) : Pd82 k s n = vcFun Cd82 (annd82 k s n) Go.Proofs.Tryd.f92 [⟨.arr 16 (.int .u8), k⟩, ⟨.int .u8, s⟩, ⟨.int .i64, n⟩] [] (outd82 k s n) := by kernel_rfl

noncomputable def Cd54 : Ctx := ⟨Go.Proofs.Tryd.prog, D, Gd82, (fun _ _ => none), fun _ => []⟩
def annd54 (_k : List Int) (s n : Int) : Nat → St → Option Ann := fun _ _ => some ⟨Nat, [3], [0], fun i => [(9, .v (.int .i64) (i : Int)), (8, .v (.int .u64) (n % 18446744073709551616 / 256 ^ i)), (7, .v .str (bytesOf (s :: (nbytes n).take i)))], fun _ => [], fun i => i ≤ 8, fun i => 8 - i⟩
def outd54 (k : List Int) (s n : Int) : COut := ⟨[], .v (.int .u64) (numK k s n), [], []⟩
def spd54 : Spec := fun args ins => match args, ins with
  | [⟨.arr 16 (.int .u8), k⟩, ⟨.int .u8, s⟩, ⟨.int .i64, n⟩], [] => some (outd54 k s n)
  | _, _ => none
def Gd54 := addG Gd82 95 spd54
def Pd54 (k : List Int) (s n : Int) : Prop :=
 (1:Nat)≤1∧∃ (x:Nat),((0=0∧bytesOf (seg (s :: List.replicate (nat_lit 0) (0:Int)) (0:Nat) (1:Nat))=bytesOf (s :: List.take x (nbytes n))∧IntKind.wrap .u64 n=n % 18446744073709551616 / 256 ^ x∧0=(x:Int)∧k=k∧false=false)∧x≤8)∧∀ (x:Nat),x≤8→IntKind.min
 .i64≤(x:Int)∧(x:Int)≤IntKind.max .i64∧IntKind.min .u64≤n % 18446744073709551616 / 256 ^ x∧n % 18446744073709551616 / 256 ^ x≤IntKind.max .u64∧ByteArray.size (bytesOf (s :: List.take x (nbytes n)))≤9223372036854775807→bif decide ((x:Int)<8)
 then ((256:Int)≠0∧(1:Nat)≤1∧ByteArray.size (bytesOf (s :: List.take x (nbytes n)))+ByteArray.size (bytesOf (seg (IntKind.wrap .u8 (Int.tmod (n % 18446744073709551616 / 256 ^ x) (256:Int)) :: List.replicate (nat_lit 0) (0:Int)) (0:Nat)
 (1:Nat)))≤9223372036854775807)∧(256:Int)≠0∧∃ (y:Nat),(0=0∧ByteArray.append (bytesOf (s :: List.take x (nbytes n))) (bytesOf (seg (IntKind.wrap .u8 (Int.tmod (n % 18446744073709551616 / 256 ^ x) (256:Int)) :: List.replicate (nat_lit
 0) (0:Int)) (0:Nat) (1:Nat)))=bytesOf (s :: List.take y (nbytes n))∧IntKind.wrap .u64 (Int.tdiv (n % 18446744073709551616 / 256 ^ x) (256:Int))=n % 18446744073709551616 / 256 ^ y∧IntKind.wrap .i64 ((x:Int)+1)=(y:Int)∧k=k∧false=false)∧y≤8∧8
 - y<8 - x else ByteArray.size (bytesOf (s :: List.take x (nbytes n)))≤1000000000∧sipF k (bytesOf (s :: List.take x (nbytes n)))=numK k s n
theorem vcd54 (k : List Int) (s n : Int) : Pd54 k s n = vcFun Cd54 (annd54 k s n) Go.Proofs.Tryd.f95 [⟨.arr 16 (.int .u8), k⟩, ⟨.int .u8, s⟩, ⟨.int .i64, n⟩] [] (outd54 k s n) := by kernel_rfl

noncomputable def Cd62 : Ctx := ⟨Go.Proofs.Tryd.prog, D, Gd54, (fun _ _ => none), fun _ => []⟩
def annd62 (k : List Int) (s n : Int) : Nat → St → Option Ann := fun id _ => match id with | 0 => some ⟨Nat, [1, 2, 3, 7, 20], [0], fun i => [(21, .v (.int .i64) (i : Int))], fun i => [(1, some ⟨false, false, .int .i64, (iotaI n.toNat).take i ++ (List.replicate n.toNat 0).drop i⟩)], fun i => i ≤ n.toNat, fun i => n.toNat - i⟩ | _ => some ⟨Nat, [1, 3, 7], [0], fun m => [(9, .v (.int .i64) (n - 1 - (m : Int)))], fun m => [(1, some ⟨false, false, .int .i64, ordTo k s n.toNat m⟩)], fun m => m ≤ n.toNat - 1, fun m => n.toNat - 1 - m⟩
def outd62 (k : List Int) (s n : Int) : COut := ⟨[1 ≤ n ∧ n ≤ 256], .v (.ref .slice) (.slice 0 (.int .i64) [] 0 n.toNat), [], [⟨false, false, .int .i64, ordK k s n.toNat⟩]⟩
def spd62 : Spec := fun args ins => match args, ins with
  | [⟨.arr 16 (.int .u8), k⟩, ⟨.int .u8, s⟩, ⟨.int .i64, n⟩], [] => some (outd62 k s n)
  | _, _ => none
def Gd62 := addG Gd54 49 spd62
def Pd62 (k : List Int) (s n : Int) : Prop :=
 ∀ (b:Bool),decide (n<1)=b→(((!b)=true→(!b)=true)∧(b=false→(!b)=true))∧bif bif b then true else decide (256<n) then n.toNat=0∧ordK k s n.toNat=[] else (0≤n∧n=n∧n * (↑ (8:Nat):Int)≤(↑ (70368744177664:Nat):Int)∧n≤(↑ (70368744177664:Nat):Int))∧∃
 (x:Nat),((s=s∧n=n∧0=0∧0=0∧n.toNat=n.toNat∧(↑ n.toNat:Int)=(↑ n.toNat:Int)∧0=(x:Int)∧k=k∧false=false∧List.replicate n.toNat (0:Int)=List.take x (iotaI n.toNat) ++ List.drop x (List.replicate n.toNat (0:Int))∧false=false)∧x≤n.toNat)∧∀
 (x:Nat),x≤n.toNat→(IntKind.min .i64≤(x:Int)∧(x:Int)≤IntKind.max .i64∧∀ (y:Int),List.Mem y (List.take x (iotaI n.toNat) ++ List.drop x (List.replicate n.toNat (0:Int)))→IntKind.min .i64≤y∧y≤IntKind.max .i64)→bif decide ((x:Int)<(↑ n.toNat:Int))
 then ((0≤(x:Int)∧(x:Int)<(↑ n.toNat:Int))∧0+(x:Int).toNat<List.length (List.take x (iotaI n.toNat) ++ List.drop x (List.replicate n.toNat (0:Int))))∧∃ (y:Nat),(s=s∧n=n∧0=0∧0=0∧n.toNat=n.toNat∧(↑ n.toNat:Int)=(↑ n.toNat:Int)∧IntKind.wrap
 .i64 ((x:Int)+1)=(y:Int)∧k=k∧false=false∧List.set (List.take x (iotaI n.toNat) ++ List.drop x (List.replicate n.toNat (0:Int))) (0+(x:Int).toNat) (x:Int)=List.take y (iotaI n.toNat) ++ List.drop y (List.replicate n.toNat (0:Int))∧false=false)∧y≤n.toNat∧n.toNat
 - y<n.toNat - x else ∃ (x_1:Nat),((s=s∧0=0∧0=0∧n.toNat=n.toNat∧IntKind.wrap .i64 (n - 1)=n - 1 - (x_1:Int)∧k=k∧false=false∧List.append (List.take x (iotaI n.toNat)) (List.drop x (List.replicate n.toNat (0:Int)))=ordTo k s n.toNat x_1∧false=false)∧x_1≤n.toNat
 - 1)∧∀ (x:Nat),x≤n.toNat - 1→(IntKind.min .i64≤n - 1 - (x:Int)∧n - 1 - (x:Int)≤IntKind.max .i64∧∀ (y:Int),List.Mem y (ordTo k s n.toNat x)→IntKind.min .i64≤y∧y≤IntKind.max .i64)→bif decide (0<n - 1 - (x:Int)) then IntKind.wrap .u64
 (IntKind.wrap .i64 (n - 1 - (x:Int)+1))≠0∧((0≤IntKind.wrap .i64 (Int.tmod (numK k s (n - 1 - (x:Int))) (IntKind.wrap .u64 (IntKind.wrap .i64 (n - 1 - (x:Int)+1))))∧IntKind.wrap .i64 (Int.tmod (numK k s (n - 1 - (x:Int))) (IntKind.wrap
 .u64 (IntKind.wrap .i64 (n - 1 - (x:Int)+1))))<(↑ n.toNat:Int))∧0+(IntKind.wrap .i64 (Int.tmod (numK k s (n - 1 - (x:Int))) (IntKind.wrap .u64 (IntKind.wrap .i64 (n - 1 - (x:Int)+1))))).toNat<List.length (ordTo k s n.toNat x)∧(0≤n -
 1 - (x:Int)∧n - 1 - (x:Int)<(↑ n.toNat:Int))∧0+(n - 1 - (x:Int)).toNat<List.length (ordTo k s n.toNat x)∧(0≤n - 1 - (x:Int)∧n - 1 - (x:Int)<(↑ n.toNat:Int))∧0+(n - 1 - (x:Int)).toNat<List.length (ordTo k s n.toNat x)∧(0≤IntKind.wrap
 .i64 (Int.tmod (numK k s (n - 1 - (x:Int))) (IntKind.wrap .u64 (IntKind.wrap .i64 (n - 1 - (x:Int)+1))))∧IntKind.wrap .i64 (Int.tmod (numK k s (n - 1 - (x:Int))) (IntKind.wrap .u64 (IntKind.wrap .i64 (n - 1 - (x:Int)+1))))<(↑ n.toNat:Int))∧0+(IntKind.wrap
 .i64 (Int.tmod (numK k s (n - 1 - (x:Int))) (IntKind.wrap .u64 (IntKind.wrap .i64 (n - 1 - (x:Int)+1))))).toNat<List.length (List.set (ordTo k s n.toNat x) (0+(n - 1 - (x:Int)).toNat) (List.getD (ordTo k s n.toNat x) (0+(IntKind.wrap
 .i64 (Int.tmod (numK k s (n - 1 - (x:Int))) (IntKind.wrap .u64 (IntKind.wrap .i64 (n - 1 - (x:Int)+1))))).toNat) (0:Int))))∧∃ (y:Nat),(s=s∧0=0∧0=0∧n.toNat=n.toNat∧IntKind.wrap .i64 (n - 1 - (x:Int) - 1)=n - 1 - (y:Int)∧k=k∧false=false∧List.set
 (List.set (ordTo k s n.toNat x) (0+(n - 1 - (x:Int)).toNat) (List.getD (ordTo k s n.toNat x) (0+(IntKind.wrap .i64 (Int.tmod (numK k s (n - 1 - (x:Int))) (IntKind.wrap .u64 (IntKind.wrap .i64 (n - 1 - (x:Int)+1))))).toNat) (0:Int)))
 (0+(IntKind.wrap .i64 (Int.tmod (numK k s (n - 1 - (x:Int))) (IntKind.wrap .u64 (IntKind.wrap .i64 (n - 1 - (x:Int)+1))))).toNat) (List.getD (ordTo k s n.toNat x) (0+(n - 1 - (x:Int)).toNat) (0:Int))=ordTo k s n.toNat y∧false=false)∧y≤n.toNat
 - 1∧n.toNat - 1 - y<n.toNat - 1 - x else 0=0∧n.toNat=n.toNat∧ordTo k s n.toNat x=ordK k s n.toNat∧false=false
theorem vcd62 (k : List Int) (s n : Int) : Pd62 k s n = vcFun Cd62 (annd62 k s n) Go.Proofs.Tryd.f49 [⟨.arr 16 (.int .u8), k⟩, ⟨.int .u8, s⟩, ⟨.int .i64, n⟩] [] (outd62 k s n) := by kernel_rfl

noncomputable def Cd53 : Ctx := ⟨Go.Proofs.Tryd.prog, D, Gd62, (fun _ _ => none), fun _ => []⟩
def annd53 (k : List Int) (s n : Int) : Nat → St → Option Ann := fun id _ => match id with | 0 => some ⟨Nat, [1, 2, 3], [0], fun i => [(8, .v (.int .i64) (i : Int)), (7, .v (.ref .slice) (.slice 1 (.int .i64) [] 0 i))], fun i => [(1, some ⟨false, false, .int .i64, iotaI i⟩)], fun i => i ≤ n.toNat, fun i => n.toNat - i⟩ | _ => some ⟨Nat, [1, 3, 7], [0], fun m => [(9, .v (.int .i64) (n - 1 - (m : Int)))], fun m => [(1, some ⟨false, false, .int .i64, ordTo k s n.toNat m⟩)], fun m => m ≤ n.toNat - 1, fun m => n.toNat - 1 - m⟩
def outd53 (k : List Int) (s n : Int) : COut := ⟨[1 ≤ n ∧ n ≤ 256], .v (.ref .slice) (.slice 0 (.int .i64) [] 0 n.toNat), [], [⟨false, false, .int .i64, ordK k s n.toNat⟩]⟩
def spd53 : Spec := fun args ins => match args, ins with
  | [⟨.arr 16 (.int .u8), k⟩, ⟨.int .u8, s⟩, ⟨.int .i64, n⟩], [] => some (outd53 k s n)
  | _, _ => none
def Gd53 := addG Gd62 52 spd53
def Pd53 (k : List Int) (s n : Int) : Prop :=
 ∃ (x:Nat),((s=s∧n=n∧0=0∧x=0∧0=(x:Int)∧k=k∧false=false∧iotaI x=[])∧x≤n.toNat)∧∀ (x:Nat),x≤n.toNat→(IntKind.min .i64≤(x:Int)∧(x:Int)≤IntKind.max .i64∧∀ (y:Int),List.Mem y (iotaI x)→IntKind.min .i64≤y∧y≤IntKind.max .i64)→bif decide ((x:Int)<n)
 then ((1:Nat)≤1∧0+x=List.length (iotaI x)∧(x+List.length (seg ((x:Int) :: List.replicate (nat_lit 0) (0:Int)) (0:Nat) (1:Nat))) * 8≤70368744177664)∧∃ (y:Nat),(s=s∧n=n∧0=0∧0=0∧x+List.length (seg ((x:Int) :: List.replicate (nat_lit 0)
 (0:Int)) (0:Nat) (1:Nat))=y∧IntKind.wrap .i64 ((x:Int)+1)=(y:Int)∧k=k∧false=false∧List.append (List.drop (0:Nat) (iotaI x)) (seg ((x:Int) :: List.replicate (nat_lit 0) (0:Int)) (0:Nat) (1:Nat))=iotaI y∧false=false)∧y≤n.toNat∧n.toNat
 - y<n.toNat - x else ∃ (x_1:Nat),((s=s∧0=0∧0=0∧x=x∧IntKind.wrap .i64 (n - 1)=n - 1 - (x_1:Int)∧k=k∧false=false∧iotaI x=ordTo k s n.toNat x_1∧false=false)∧x_1≤n.toNat - 1)∧∀ (x_2:Nat),x_2≤n.toNat - 1→(IntKind.min .i64≤n - 1 - (x_2:Int)∧n
 - 1 - (x_2:Int)≤IntKind.max .i64∧∀ (y:Int),List.Mem y (ordTo k s n.toNat x_2)→IntKind.min .i64≤y∧y≤IntKind.max .i64)→bif decide (1≤n - 1 - (x_2:Int)) then IntKind.wrap .u64 (IntKind.wrap .i64 (n - 1 - (x_2:Int)+1))≠0∧((0≤n - 1 - (x_2:Int)∧n
 - 1 - (x_2:Int)<(x:Int))∧0+(n - 1 - (x_2:Int)).toNat<List.length (ordTo k s n.toNat x_2))∧((0≤IntKind.wrap .i64 (Int.tmod (numK k s (n - 1 - (x_2:Int))) (IntKind.wrap .u64 (IntKind.wrap .i64 (n - 1 - (x_2:Int)+1))))∧IntKind.wrap .i64
 (Int.tmod (numK k s (n - 1 - (x_2:Int))) (IntKind.wrap .u64 (IntKind.wrap .i64 (n - 1 - (x_2:Int)+1))))<(x:Int))∧0+(IntKind.wrap .i64 (Int.tmod (numK k s (n - 1 - (x_2:Int))) (IntKind.wrap .u64 (IntKind.wrap .i64 (n - 1 - (x_2:Int)+1))))).toNat<List.length
 (ordTo k s n.toNat x_2)∧(0≤n - 1 - (x_2:Int)∧n - 1 - (x_2:Int)<(x:Int))∧0+(n - 1 - (x_2:Int)).toNat<List.length (ordTo k s n.toNat x_2))∧((0≤IntKind.wrap .i64 (Int.tmod (numK k s (n - 1 - (x_2:Int))) (IntKind.wrap .u64 (IntKind.wrap
 .i64 (n - 1 - (x_2:Int)+1))))∧IntKind.wrap .i64 (Int.tmod (numK k s (n - 1 - (x_2:Int))) (IntKind.wrap .u64 (IntKind.wrap .i64 (n - 1 - (x_2:Int)+1))))<(x:Int))∧0+(IntKind.wrap .i64 (Int.tmod (numK k s (n - 1 - (x_2:Int))) (IntKind.wrap
 .u64 (IntKind.wrap .i64 (n - 1 - (x_2:Int)+1))))).toNat<List.length (List.set (ordTo k s n.toNat x_2) (0+(n - 1 - (x_2:Int)).toNat) (List.getD (ordTo k s n.toNat x_2) (0+(IntKind.wrap .i64 (Int.tmod (numK k s (n - 1 - (x_2:Int))) (IntKind.wrap
 .u64 (IntKind.wrap .i64 (n - 1 - (x_2:Int)+1))))).toNat) (0:Int))))∧∃ (y:Nat),(s=s∧0=0∧0=0∧x=x∧IntKind.wrap .i64 (n - 1 - (x_2:Int) - 1)=n - 1 - (y:Int)∧k=k∧false=false∧List.set (List.set (ordTo k s n.toNat x_2) (0+(n - 1 - (x_2:Int)).toNat)
 (List.getD (ordTo k s n.toNat x_2) (0+(IntKind.wrap .i64 (Int.tmod (numK k s (n - 1 - (x_2:Int))) (IntKind.wrap .u64 (IntKind.wrap .i64 (n - 1 - (x_2:Int)+1))))).toNat) (0:Int))) (0+(IntKind.wrap .i64 (Int.tmod (numK k s (n - 1 - (x_2:Int)))
 (IntKind.wrap .u64 (IntKind.wrap .i64 (n - 1 - (x_2:Int)+1))))).toNat) (List.getD (ordTo k s n.toNat x_2) (0+(n - 1 - (x_2:Int)).toNat) (0:Int))=ordTo k s n.toNat y∧false=false)∧y≤n.toNat - 1∧n.toNat - 1 - y<n.toNat - 1 - x_2 else 0=0∧x=n.toNat∧ordTo
 k s n.toNat x_2=ordK k s n.toNat∧false=false
theorem vcd53 (k : List Int) (s n : Int) : Pd53 k s n = vcFun Cd53 (annd53 k s n) Go.Proofs.Tryd.f52 [⟨.arr 16 (.int .u8), k⟩, ⟨.int .u8, s⟩, ⟨.int .i64, n⟩] [] (outd53 k s n) := by kernel_rfl

noncomputable def Cd61 : Ctx := ⟨Go.Proofs.Tryd.prog, D, Gd53, (fun _ _ => none), fun _ => []⟩
def annd61 (_n : Int) : Nat → St → Option Ann := fun _ _ => none
def outd61 (n : Int) : COut := ⟨[], .v (.int .i64) (n % 1016), [], []⟩
def spd61 : Spec := fun args ins => match args, ins with
  | [⟨.int .i64, n⟩], [] => some (outd61 n)
  | _, _ => none
def Gd61 := addG Gd53 48 spd61
def Pd61 (n : Int) : Prop :=
 ((1016:Int)≠0∧(1016:Int)≠0)∧Int.tmod (IntKind.wrap .i64 (Int.tmod n (1016:Int)+1016)) (1016:Int)=n % 1016
theorem vcd61 (n : Int) : Pd61 n = vcFun Cd61 (annd61 n) Go.Proofs.Tryd.f48 [⟨.int .i64, n⟩] [] (outd61 n) := by kernel_rfl

noncomputable def Cd52 : Ctx := ⟨Go.Proofs.Tryd.prog, D, Gd61, (fun _ _ => none), fun _ => []⟩
def annd52 (_n : Int) : Nat → St → Option Ann := fun _ _ => none
def outd52 (n : Int) : COut := ⟨[], .v (.int .i64) (n % 1016), [], []⟩
def spd52 : Spec := fun args ins => match args, ins with
  | [⟨.int .i64, n⟩], [] => some (outd52 n)
  | _, _ => none
def Gd52 := addG Gd61 29 spd52
def Pd52 (n : Int) : Prop :=
 (1016:Int)≠0∧bif decide (Int.tmod n (1016:Int)<0) then IntKind.wrap .i64 (Int.tmod n (1016:Int)+1016)=n % 1016 else Int.tmod n (1016:Int)=n % 1016
theorem vcd52 (n : Int) : Pd52 n = vcFun Cd52 (annd52 n) Go.Proofs.Tryd.f29 [⟨.int .i64, n⟩] [] (outd52 n) := by kernel_rfl

noncomputable def Cd24 : Ctx := ⟨Go.Proofs.Tryd.prog, D, Gd52, (fun _ _ => none), fun _ => []⟩
def annd24 (_k : List Int) (_n : Int) : Nat → St → Option Ann := fun _ _ => none
def outd24 (k : List Int) (n : Int) : COut := ⟨[], .v (.int .i64) (bandK k n), [], []⟩
def spd24 : Spec := fun args ins => match args, ins with
  | [⟨.arr 16 (.int .u8), k⟩, ⟨.int .i64, n⟩], [] => some (outd24 k n)
  | _, _ => none
def Gd24 := addG Gd52 18 spd24
def Pd24 (k : List Int) (n : Int) : Prop :=
 ((8:Int)≠0∧((1:Int)≤8∧(8:Int)≤256)∧(8:Int)≠0∧(0≤Int.tmod (n % 1016) (8:Int)∧Int.tmod (n % 1016) (8:Int)<(↑ (8:Nat):Int))∧0+(Int.tmod (n % 1016) (8:Int)).toNat<List.length (ordK k (IntKind.wrap .u8 (IntKind.wrap .i64 (128+IntKind.wrap
 .i64 (Int.tdiv (n % 1016) (8:Int))))) (8:Nat)))∧List.getD (ordK k (IntKind.wrap .u8 (IntKind.wrap .i64 (128+IntKind.wrap .i64 (Int.tdiv (n % 1016) (8:Int))))) (8:Nat)) (0+(Int.tmod (n % 1016) (8:Int)).toNat) (0:Int)=bandK k n
theorem vcd24 (k : List Int) (n : Int) : Pd24 k n = vcFun Cd24 (annd24 k n) Go.Proofs.Tryd.f18 [⟨.arr 16 (.int .u8), k⟩, ⟨.int .i64, n⟩] [] (outd24 k n) := by kernel_rfl

noncomputable def Cd55 : Ctx := ⟨Go.Proofs.Tryd.prog, D, Gd24, (fun _ _ => none), fun _ => []⟩
def annd55 (x i : Int) : Nat → St → Option Ann := fun _ _ => some ⟨Nat, [1], [], fun j => [(5, .v (.int .i64) (j : Int)), (0, .v (.int .u64) (x / 2 ^ j))], fun _ => [], fun j => j ≤ i.toNat, fun j => i.toNat - j⟩
def outd55 (x i : Int) : COut := ⟨[0 ≤ i ∧ i ≤ 100], .v (.int .i64) (if bitX x i.toNat then 1 else 0), [], []⟩
def spd55 : Spec := fun args ins => match args, ins with
  | [⟨.int .u64, x⟩, ⟨.int .i64, i⟩], [] => some (outd55 x i)
  | _, _ => none
def Gd55 := addG Gd24 96 spd55
def Pd55 (x i : Int) : Prop :=
 ∃ (x_1:Nat),((x=x / 2 ^ x_1∧i=i∧0=(x_1:Int))∧x_1≤i.toNat)∧∀ (x_2:Nat),x_2≤i.toNat→IntKind.min .i64≤(x_2:Int)∧(x_2:Int)≤IntKind.max .i64∧IntKind.min .u64≤x / 2 ^ x_2∧x / 2 ^ x_2≤IntKind.max .u64→bif decide ((x_2:Int)<i) then (2:Int)≠0∧∃
 (y:Nat),(IntKind.wrap .u64 (Int.tdiv (x / 2 ^ x_2) (2:Int))=x / 2 ^ y∧i=i∧IntKind.wrap .i64 ((x_2:Int)+1)=(y:Int))∧y≤i.toNat∧i.toNat - y<i.toNat - x_2 else (2:Int)≠0∧IntKind.wrap .i64 (Int.tmod (x / 2 ^ x_2) (2:Int))=if bitX x i.toNat=true
 then (1:Int) else (0:Int)
theorem vcd55 (x i : Int) : Pd55 x i = vcFun Cd55 (annd55 x i) Go.Proofs.Tryd.f96 [⟨.int .u64, x⟩, ⟨.int .i64, i⟩] [] (outd55 x i) := by kernel_rfl

end Go.SL.A

/- Masks and bytes of numbers: plain facts. -/
namespace Go.SL.A
open Go Go.SL Go.SL.S
set_option maxRecDepth 100000

theorem and_num (x : Int) (m : Nat) (hm : 2 ^ m ≤ 2 ^ 64) : (BitVec.ofInt 64 x &&& BitVec.ofInt 64 ((2 ^ m - 1 : Nat) : Int)).toNat = (x % 18446744073709551616).toNat % 2 ^ m := by
  have hp : 0 < 2 ^ m := Nat.pow_pos (by decide)
  rw [BitVec.toNat_and, BitVec.ofInt_natCast, BitVec.toNat_ofNat, BitVec.toNat_ofInt, Nat.mod_eq_of_lt (a := 2 ^ m - 1) (by omega), Nat.and_two_pow_sub_one_eq_mod]
  rfl
theorem iand16 (x : Int) (_hx : 0 ≤ x ∧ x < 18446744073709551616) : iand .u64 x 65535 = x % 65536 := by
  unfold iand
  have h := and_num x 16 (by decide)
  have e : (((2 ^ 16 - 1 : Nat)) : Int) = 65535 := by decide
  have e2 : (2 : Nat) ^ 16 = 65536 := by decide
  rw [e, e2] at h
  have h : (BitVec.ofInt IntKind.u64.bits x &&& BitVec.ofInt IntKind.u64.bits 65535).toNat = (x % 18446744073709551616).toNat % 65536 := h
  rw [h, wrap_u64]; omega
theorem iand48 (x : Int) (_hx : 0 ≤ x ∧ x < 18446744073709551616) : iand .u64 x 281474976710655 = x % 281474976710656 := by
  unfold iand
  have h := and_num x 48 (by decide)
  have e : (((2 ^ 48 - 1 : Nat)) : Int) = 281474976710655 := by decide
  have e2 : (2 : Nat) ^ 48 = 281474976710656 := by decide
  rw [e, e2] at h
  have h : (BitVec.ofInt IntKind.u64.bits x &&& BitVec.ofInt IntKind.u64.bits 281474976710655).toNat = (x % 18446744073709551616).toNat % 281474976710656 := h
  rw [h, wrap_u64]; omega
theorem iand48' (x : Int) : iand .i64 x 281474976710655 = x % 281474976710656 := by
  unfold iand
  have h := and_num x 48 (by decide)
  have e : (((2 ^ 48 - 1 : Nat)) : Int) = 281474976710655 := by decide
  have e2 : (2 : Nat) ^ 48 = 281474976710656 := by decide
  rw [e, e2] at h
  have h : (BitVec.ofInt IntKind.i64.bits x &&& BitVec.ofInt IntKind.i64.bits 281474976710655).toNat = (x % 18446744073709551616).toNat % 281474976710656 := h
  rw [h, w64 (by omega) (by omega)]; omega
theorem shr48 {x : Int} (_hx : 0 ≤ x) : ishr .u64 x 48 = x / 281474976710656 := by
  unfold ishr
  have e : min (48 : Int).toNat IntKind.u64.bits = 48 := rfl
  have e2 : (2 : Int) ^ 48 = 281474976710656 := by decide
  rw [e, e2, Int.fdiv_eq_ediv_of_nonneg _ (by decide)]
theorem wrap_u8 (x : Int) : IntKind.u8.wrap x = x % 256 := by simp [IntKind.wrap, IntKind.bits, IntKind.signed]
theorem pow8 (i : Nat) : (2 : Int) ^ (8 * i) = 256 ^ i := by
  rw [Int.pow_mul]; rfl
theorem shr_byte (p : Int) {i : Nat} (hi : i < 8) : IntKind.u8.wrap (ishr .i64 p (8 * (i : Int))) = p / 256 ^ i % 256 := by
  unfold ishr
  have e : min (8 * (i : Int)).toNat IntKind.i64.bits = 8 * i := by
    have : IntKind.i64.bits = 64 := rfl
    omega
  rw [e, pow8, Int.fdiv_eq_ediv_of_nonneg _ (Int.le_of_lt (pow256 i)), wrap_u8]
theorem sip_fit (k : List Int) (s : ByteArray) : 0 ≤ sipF k s ∧ sipF k s < 18446744073709551616 := by
  unfold sipF sumV
  exact ixor_fit _ _
theorem bytes_append (l m : List Int) : ByteArray.append (bytesOf l) (bytesOf m) = bytesOf (l ++ m) := by
  show bytesOf l ++ bytesOf m = _
  refine ByteArray.ext ?_
  rw [ByteArray.data_append]
  unfold bytesOf
  simp
theorem sg1 (w : Int) : seg (w :: List.replicate 0 0) 0 1 = [w] := rfl

end Go.SL.A

/- What a key makes of a number. -/
namespace Go.SL.A
open Go Go.SL Go.SL.S
set_option maxRecDepth 100000

theorem hwd109 {i x : Int} (hw : Go.SL.allP (List.flatMap (fun a : AV => a.t.wf a.x) [⟨.int .i64, i⟩, ⟨.ref .ptr, .ptr 0 (.int .u64) [0]⟩] ++ List.flatMap Blk.wf [⟨false, true, .int .u64, [x]⟩])) : 0 ≤ x ∧ x ≤ 18446744073709551615 := by
  simp only [List.flatMap_cons, List.flatMap_nil, Ty.wf, Blk.wf, List.append_nil, List.cons_append, List.nil_append, Go.SL.allP] at hw
  exact hw.2.2 x (List.Mem.head _)
theorem pured109 (i x : Int) (hp : 0 ≤ i ∧ i < 64) (hx : 0 ≤ x ∧ x ≤ 18446744073709551615) : Pd109 i x := by
  unfold Pd109
  refine ⟨hp.1, ?_⟩
  obtain ⟨n, rfl⟩ : ∃ n : Nat, i = n := ⟨i.toNat, by omega⟩
  rw [Int.toNat_natCast]
  exact ⟨bit_shr hx (i := n) (by omega), rfl, rfl⟩
theorem pured81 (x : Int) : Pd81 x := by
  unfold Pd81; trivial

theorem nbytes_len (n : Int) : (nbytes n).length = 8 := by simp [nbytes]
theorem nbytes_step (n : Int) {i : Nat} (hi : i < 8) : (nbytes n).take i ++ [n % 18446744073709551616 / 256 ^ i % 256] = (nbytes n).take (i + 1) := by
  rw [take_snoc' (0 : Int) (by rw [nbytes_len]; exact hi)]
  congr 1
  unfold nbytes
  rw [List.getD_eq_getElem?_getD, List.getElem?_map, List.getElem?_range hi]; rfl
theorem shr_byteU (p : Int) {i : Nat} (hi : i < 8) : IntKind.u8.wrap (ishr .u64 p (8 * (i : Int))) = p / 256 ^ i % 256 := by
  unfold ishr
  have e : min (8 * (i : Int)).toNat IntKind.u64.bits = 8 * i := by
    have : IntKind.u64.bits = 64 := rfl
    omega
  rw [e, pow8, Int.fdiv_eq_ediv_of_nonneg _ (Int.le_of_lt (pow256 i)), wrap_u8]
theorem numK_fit (k : List Int) (s n : Int) : 0 ≤ numK k s n ∧ numK k s n < 18446744073709551616 := sip_fit _ _

theorem pured82 (k : List Int) (s n : Int) : Pd82 k s n := by
  unfold Pd82
  simp only [eq_self, true_and, and_true, Nat.zero_add, sg1, List.length_cons, List.length_nil, List.length_take, nbytes_len]
  refine ⟨0, ⟨⟨rfl, rfl, rfl⟩, by omega⟩, fun i hi hw => ?_⟩
  clear hw
  by_cases h : (i : Int) < 8
  · have e : IntKind.i64.wrap (8 * (i : Int)) = 8 * (i : Int) := w64 (by omega) (by omega)
    rw [decide_eq_true h, cond_true, e, wrap_u64, shr_byteU _ (by omega)]
    refine ⟨⟨by omega, by omega, by omega, by omega⟩, i + 1, ⟨rfl, step_i (by omega), ?_⟩, by omega, by omega⟩
    exact congrArg (fun l => s :: l) (nbytes_step n (by omega))
  · have : i = 8 := by omega
    subst this
    have e1 : List.take 8 (nbytes n) = nbytes n := List.take_of_length_le (by rw [nbytes_len]; exact Nat.le_refl _)
    have e2 : seg (s :: nbytes n) 0 (8 + 1) = s :: nbytes n := by
      unfold seg
      rw [List.drop_zero, List.take_of_length_le (by rw [List.length_cons, nbytes_len]; exact Nat.le_refl _)]
    rw [decide_eq_false h, cond_false, e1, e2, size_of, List.length_cons, nbytes_len]
    exact ⟨⟨by omega, by omega⟩, rfl⟩

theorem pured54 (k : List Int) (s n : Int) : Pd54 k s n := by
  unfold Pd54
  simp only [eq_self, true_and, and_true, sg1, size_of, List.length_cons, List.length_nil, List.length_take, nbytes_len, bytes_append]
  refine ⟨by omega, 0, ⟨⟨rfl, by rw [wrap_u64, Int.pow_zero, Int.ediv_one], rfl⟩, by omega⟩, fun i hi hw => ?_⟩
  clear hw
  by_cases h : (i : Int) < 8
  · have hp : 0 ≤ n % 18446744073709551616 := Int.emod_nonneg _ (by decide)
    have hp2 : n % 18446744073709551616 < 18446744073709551616 := Int.emod_lt_of_pos _ (by decide)
    have hq : 0 ≤ n % 18446744073709551616 / 256 ^ i ∧ n % 18446744073709551616 / 256 ^ i ≤ n % 18446744073709551616 := ⟨Int.ediv_nonneg hp (Int.le_of_lt (pow256 i)), Int.ediv_le_self _ hp⟩
    have hnext : n % 18446744073709551616 / 256 ^ (i + 1) = n % 18446744073709551616 / 256 ^ i / 256 := by rw [Int.pow_succ, Int.ediv_ediv_of_nonneg (Int.le_of_lt (pow256 i))]
    have hst := nbytes_step n (i := i) (by omega)
    rw [decide_eq_true h, cond_true]
    generalize n % 18446744073709551616 / 256 ^ i = q at *
    have d := tdm q (k := 256) (by decide)
    have e1 : IntKind.u8.wrap (q.tmod 256) = q % 256 := by rw [wrap_u8]; omega
    have e2 : IntKind.u64.wrap (q.tdiv 256) = q / 256 := by rw [w_u64 (by omega) (by omega)]; omega
    rw [e1, e2]
    refine ⟨⟨by decide, by omega, by omega⟩, by decide, i + 1, ⟨?_, hnext.symm, step_i (by omega)⟩, by omega, by omega⟩
    rw [List.cons_append, hst]
  · have : i = 8 := by omega
    subst this
    have e1 : List.take 8 (nbytes n) = nbytes n := List.take_of_length_le (by rw [nbytes_len]; exact Nat.le_refl _)
    rw [decide_eq_false h, cond_false, e1]
    exact ⟨by omega, rfl⟩

theorem ord_len (k : List Int) (s : Int) (n m : Nat) : (ordTo k s n m).length = n := by
  induction m with
  | zero => simp [ordTo, iotaI]
  | succ m ih => rw [ordTo, swpI, List.length_set, List.length_set, ih]
theorem ord_step (k : List Int) (s : Int) (n m : Nat) : List.set (List.set (ordTo k s n m) (n - 1 - m) (List.getD (ordTo k s n m) (numK k s ((n - 1 - m : Nat) : Int) % ((n - m : Nat) : Int)).toNat 0)) (numK k s ((n - 1 - m : Nat) : Int) % ((n - m : Nat) : Int)).toNat (List.getD (ordTo k s n m) (n - 1 - m) 0) = ordTo k s n (m + 1) := rfl
theorem iota_len (n : Nat) : (iotaI n).length = n := by simp [iotaI]
theorem iota_at {n i : Nat} (hi : i < n) : (iotaI n)[i]? = some (i : Int) := by
  unfold iotaI; rw [List.getElem?_map, List.getElem?_range hi]; rfl
theorem iota_step (n : Nat) : iotaI n ++ [(n : Int)] = iotaI (n + 1) := by
  unfold iotaI
  rw [List.range_succ, List.map_append]; rfl

theorem pured62 (k : List Int) (s n : Int) (hp : 1 ≤ n ∧ n ≤ 256) : Pd62 k s n := by
  obtain ⟨N, rfl⟩ : ∃ N : Nat, n = N := ⟨n.toNat, by omega⟩
  unfold Pd62
  simp only [eq_self, true_and, and_true, Int.toNat_natCast, Nat.zero_add, ord_len, List.length_set]
  intro b hb
  have hb : false = b := by rw [← hb]; exact (decide_eq_false (by omega)).symm
  subst hb
  refine ⟨by simp, ?_⟩
  rw [cond_false, decide_eq_false (by omega), cond_false]
  refine ⟨⟨by omega, by omega, by omega⟩, 0, ⟨⟨rfl, rfl⟩, by omega⟩, fun i hi hw => ?_⟩
  clear hw
  by_cases h : (i : Int) < (N : Int)
  · rw [decide_eq_true h, cond_true]
    refine ⟨⟨⟨by omega, by omega⟩, by rw [List.length_append, List.length_take, List.length_drop, List.length_replicate, iota_len]; omega⟩, i + 1, ⟨step_i (by omega), set_step (by rw [iota_len]; omega) (by rw [List.length_replicate]; omega) (iota_at (by omega))⟩, by omega, by omega⟩
  · have : i = N := by omega
    subst this
    rw [decide_eq_false h, cond_false]
    refine ⟨0, ⟨⟨by rw [w64 (by omega) (by omega)]; omega, ?_⟩, by omega⟩, fun m hm hw => ?_⟩
    · show List.take i (iotaI i) ++ List.drop i (List.replicate i 0) = ordTo k s i 0
      rw [List.take_of_length_le (by rw [iota_len]; exact Nat.le_refl _), List.drop_eq_nil_of_le (by rw [List.length_replicate]; exact Nat.le_refl _), List.append_nil]; rfl
    clear hw
    have e0 : (i : Int) - 1 - (m : Int) = ((i - 1 - m : Nat) : Int) := by omega
    rw [e0]
    by_cases h2 : (0 : Int) < ((i - 1 - m : Nat) : Int)
    · have hf := numK_fit k s ((i - 1 - m : Nat) : Int)
      have hst := ord_step k s i m
      have e1 : IntKind.i64.wrap (((i - 1 - m : Nat) : Int) + 1) = ((i - m : Nat) : Int) := by rw [w64 (by omega) (by omega)]; omega
      have e2 : IntKind.u64.wrap ((i - m : Nat) : Int) = ((i - m : Nat) : Int) := w_u64 (by omega) (by omega)
      have e5 : IntKind.i64.wrap (((i - 1 - m : Nat) : Int) - 1) = (i : Int) - 1 - ((m + 1 : Nat) : Int) := by rw [w64 (by omega) (by omega)]; omega
      rw [decide_eq_true h2, cond_true, e1, e2, e5, Int.tmod_eq_emod_of_nonneg hf.1]
      generalize numK k s ((i - 1 - m : Nat) : Int) = x at *
      have r1 := Int.emod_nonneg x (b := ((i - m : Nat) : Int)) (by omega)
      have r2 := Int.emod_lt_of_pos x (b := ((i - m : Nat) : Int)) (by omega)
      have e4 : IntKind.i64.wrap (x % ((i - m : Nat) : Int)) = x % ((i - m : Nat) : Int) := w64 (by omega) (by omega)
      rw [e4, Int.toNat_natCast]
      exact ⟨by omega, ⟨⟨by omega, by omega⟩, by omega, ⟨by omega, by omega⟩, by omega, ⟨by omega, by omega⟩, by omega, ⟨by omega, by omega⟩, by omega⟩, m + 1, ⟨rfl, hst⟩, by omega, by omega⟩
    · have : m = i - 1 := by omega
      rw [decide_eq_false h2, cond_false, this]; rfl

theorem pured53 (k : List Int) (s n : Int) (hp : 1 ≤ n ∧ n ≤ 256) : Pd53 k s n := by
  obtain ⟨N, rfl⟩ : ∃ N : Nat, n = N := ⟨n.toNat, by omega⟩
  unfold Pd53
  simp only [eq_self, true_and, and_true, Int.toNat_natCast, Nat.zero_add, ord_len, List.length_set, iota_len, sg1, List.length_singleton]
  refine ⟨0, ⟨⟨rfl, rfl, rfl⟩, by omega⟩, fun i hi hw => ?_⟩
  clear hw
  by_cases h : (i : Int) < (N : Int)
  · rw [decide_eq_true h, cond_true]
    refine ⟨⟨by omega, by omega⟩, i + 1, ⟨rfl, step_i (by omega), ?_⟩, by omega, by omega⟩
    show List.drop 0 (iotaI i) ++ [(i : Int)] = _
    rw [List.drop_zero, iota_step]
  · have : i = N := by omega
    subst this
    rw [decide_eq_false h, cond_false]
    refine ⟨0, ⟨⟨by rw [w64 (by omega) (by omega)]; omega, rfl⟩, by omega⟩, fun m hm hw => ?_⟩
    clear hw
    have e0 : (i : Int) - 1 - (m : Int) = ((i - 1 - m : Nat) : Int) := by omega
    rw [e0]
    by_cases h2 : (1 : Int) ≤ ((i - 1 - m : Nat) : Int)
    · have hf := numK_fit k s ((i - 1 - m : Nat) : Int)
      have hst := ord_step k s i m
      have e1 : IntKind.i64.wrap (((i - 1 - m : Nat) : Int) + 1) = ((i - m : Nat) : Int) := by rw [w64 (by omega) (by omega)]; omega
      have e2 : IntKind.u64.wrap ((i - m : Nat) : Int) = ((i - m : Nat) : Int) := w_u64 (by omega) (by omega)
      have e5 : IntKind.i64.wrap (((i - 1 - m : Nat) : Int) - 1) = (i : Int) - 1 - ((m + 1 : Nat) : Int) := by rw [w64 (by omega) (by omega)]; omega
      rw [decide_eq_true h2, cond_true, e1, e2, e5, Int.tmod_eq_emod_of_nonneg hf.1]
      generalize numK k s ((i - 1 - m : Nat) : Int) = x at *
      have r1 := Int.emod_nonneg x (b := ((i - m : Nat) : Int)) (by omega)
      have r2 := Int.emod_lt_of_pos x (b := ((i - m : Nat) : Int)) (by omega)
      have e4 : IntKind.i64.wrap (x % ((i - m : Nat) : Int)) = x % ((i - m : Nat) : Int) := w64 (by omega) (by omega)
      rw [e4, Int.toNat_natCast]
      exact ⟨by omega, ⟨⟨by omega, by omega⟩, by omega⟩, ⟨⟨by omega, by omega⟩, by omega, ⟨by omega, by omega⟩, by omega⟩, ⟨⟨by omega, by omega⟩, by omega⟩, m + 1, ⟨rfl, hst⟩, by omega, by omega⟩
    · have : m = i - 1 := by omega
      rw [decide_eq_false h2, cond_false, this]; exact ⟨rfl, rfl⟩

theorem pured61 (n : Int) : Pd61 n := by
  unfold Pd61
  have d := tdm n (k := 1016) (by decide)
  have e1 : IntKind.i64.wrap (n.tmod 1016 + 1016) = n.tmod 1016 + 1016 := w64 (by omega) (by omega)
  have d2 := tdm (n.tmod 1016 + 1016) (k := 1016) (by decide)
  rw [e1]
  exact ⟨⟨by decide, by decide⟩, by omega⟩
theorem pured52 (n : Int) : Pd52 n := by
  unfold Pd52
  have d := tdm n (k := 1016) (by decide)
  refine ⟨by decide, ?_⟩
  by_cases h : n.tmod 1016 < 0
  · rw [decide_eq_true h, cond_true, w64 (by omega) (by omega)]; omega
  · rw [decide_eq_false h, cond_false]; omega

theorem ordK_len (k : List Int) (s : Int) (n : Nat) : (ordK k s n).length = n := ord_len _ _ _ _
theorem band_num (n : Int) : IntKind.u8.wrap (IntKind.i64.wrap (128 + IntKind.i64.wrap ((n % 1016).tdiv 8))) = 128 + n % 1016 / 8 ∧ (n % 1016).tmod 8 = n % 1016 % 8 := by
  have d := tdm (n % 1016) (k := 8) (by decide)
  have e1 : IntKind.i64.wrap ((n % 1016).tdiv 8) = n % 1016 / 8 := by rw [w64 (by omega) (by omega)]; omega
  refine ⟨?_, by omega⟩
  rw [e1, w64 (by omega) (by omega), wrap_u8]; omega
theorem pured24 (k : List Int) (n : Int) : Pd24 k n := by
  unfold Pd24
  obtain ⟨e1, e2⟩ := band_num n
  rw [e1, e2, ordK_len, Nat.zero_add]
  exact ⟨⟨by decide, ⟨by decide, by decide⟩, by decide, ⟨by omega, by omega⟩, by omega⟩, rfl⟩
theorem hwd55 {x i : Int} (hw : Go.SL.allP (List.flatMap (fun a : AV => a.t.wf a.x) [⟨.int .u64, x⟩, ⟨.int .i64, i⟩] ++ List.flatMap Blk.wf [])) : 0 ≤ x ∧ x < 18446744073709551616 := hwd120 hw
theorem pured55 (x i : Int) (hp : 0 ≤ i ∧ i ≤ 100) (hx : 0 ≤ x ∧ x < 18446744073709551616) : Pd55 x i := by
  unfold Pd55
  simp only [eq_self, true_and, and_true]
  have hq : ∀ j : Nat, 0 ≤ x / 2 ^ j ∧ x / 2 ^ j ≤ x := fun j => ⟨Int.ediv_nonneg hx.1 (Int.le_of_lt (Int.pow_pos (by decide))), Int.ediv_le_self _ hx.1⟩
  refine ⟨0, ⟨⟨by rw [Int.pow_zero, Int.ediv_one], rfl⟩, by omega⟩, fun j hj hw => ?_⟩
  clear hw
  have hj2 := hq j
  by_cases h : (j : Int) < i
  · have hnext : x / 2 ^ (j + 1) = x / 2 ^ j / 2 := by rw [Int.pow_succ, Int.ediv_ediv_of_nonneg (Int.le_of_lt (Int.pow_pos (by decide)))]
    rw [decide_eq_true h, cond_true]
    have d := tdm (x / 2 ^ j) (k := 2) (by decide)
    exact ⟨by decide, j + 1, ⟨by rw [hnext, w_u64 (by omega) (by omega)]; omega, step_i (by omega)⟩, by omega, by omega⟩
  · have : j = i.toNat := by omega
    have d := tdm (x / 2 ^ j) (k := 2) (by decide)
    rw [decide_eq_false h, cond_false]
    refine ⟨by decide, ?_⟩
    unfold bitX
    rw [← this, w64 (by omega) (by omega)]
    by_cases hb : x / 2 ^ j % 2 = 1
    · rw [decide_eq_true hb, if_pos rfl]; omega
    · rw [decide_eq_false hb, if_neg (by simp)]; omega
end Go.SL.A

/- Functions do what they are held to do. -/
namespace Go.SL.A
open Go Go.SL Go.SL.S
theorem sndd109 : Sound Go.Proofs.Tryd.prog Gd109 := sndd73.add ⟨_, Go.Proofs.Tryd.func135, by kernel_rfl, by kernel_rfl⟩ (by
  intro args ins out h hp
  unfold spd109 at h
  split at h
  · rename_i i x
    cases h
    exact vcFun_ok (C := Cd109) good sndd73 Meth.none mix Go.Proofs.Tryd.func135 (annd109 i x) (fun hw => by rw [← vcd109 i x]; exact pured109 i x hp (hwd109 hw))
  · cases h)

theorem sndd81 : Sound Go.Proofs.Tryd.prog Gd81 := sndd109.add ⟨_, Go.Proofs.Tryd.func99, by kernel_rfl, by kernel_rfl⟩ (by
  intro args ins out h hp
  unfold spd81 at h
  split at h
  · rename_i x
    cases h
    exact vcFun_ok (C := Cd81) good sndd109 Meth.none mix Go.Proofs.Tryd.func99 (annd81 x) (fun hw => by rw [← vcd81 x]; exact pured81 x)
  · cases h)

theorem sndd82 : Sound Go.Proofs.Tryd.prog Gd82 := sndd81.add ⟨_, Go.Proofs.Tryd.func92, by kernel_rfl, by kernel_rfl⟩ (by
  intro args ins out h hp
  unfold spd82 at h
  split at h
  · rename_i k s n
    cases h
    exact vcFun_ok (C := Cd82) good sndd81 Meth.none mix Go.Proofs.Tryd.func92 (annd82 k s n) (fun hw => by rw [← vcd82 k s n]; exact pured82 k s n)
  · cases h)

theorem sndd54 : Sound Go.Proofs.Tryd.prog Gd54 := sndd82.add ⟨_, Go.Proofs.Tryd.func95, by kernel_rfl, by kernel_rfl⟩ (by
  intro args ins out h hp
  unfold spd54 at h
  split at h
  · rename_i k s n
    cases h
    exact vcFun_ok (C := Cd54) good sndd82 Meth.none mix Go.Proofs.Tryd.func95 (annd54 k s n) (fun hw => by rw [← vcd54 k s n]; exact pured54 k s n)
  · cases h)

theorem sndd62 : Sound Go.Proofs.Tryd.prog Gd62 := sndd54.add ⟨_, Go.Proofs.Tryd.func49, by kernel_rfl, by kernel_rfl⟩ (by
  intro args ins out h hp
  unfold spd62 at h
  split at h
  · rename_i k s n
    cases h
    exact vcFun_ok (C := Cd62) good sndd54 Meth.none mix Go.Proofs.Tryd.func49 (annd62 k s n) (fun hw => by rw [← vcd62 k s n]; exact pured62 k s n hp)
  · cases h)

theorem sndd53 : Sound Go.Proofs.Tryd.prog Gd53 := sndd62.add ⟨_, Go.Proofs.Tryd.func52, by kernel_rfl, by kernel_rfl⟩ (by
  intro args ins out h hp
  unfold spd53 at h
  split at h
  · rename_i k s n
    cases h
    exact vcFun_ok (C := Cd53) good sndd62 Meth.none mix Go.Proofs.Tryd.func52 (annd53 k s n) (fun hw => by rw [← vcd53 k s n]; exact pured53 k s n hp)
  · cases h)

theorem sndd61 : Sound Go.Proofs.Tryd.prog Gd61 := sndd53.add ⟨_, Go.Proofs.Tryd.func48, by kernel_rfl, by kernel_rfl⟩ (by
  intro args ins out h hp
  unfold spd61 at h
  split at h
  · rename_i n
    cases h
    exact vcFun_ok (C := Cd61) good sndd53 Meth.none mix Go.Proofs.Tryd.func48 (annd61 n) (fun hw => by rw [← vcd61 n]; exact pured61 n)
  · cases h)

theorem sndd52 : Sound Go.Proofs.Tryd.prog Gd52 := sndd61.add ⟨_, Go.Proofs.Tryd.func29, by kernel_rfl, by kernel_rfl⟩ (by
  intro args ins out h hp
  unfold spd52 at h
  split at h
  · rename_i n
    cases h
    exact vcFun_ok (C := Cd52) good sndd61 Meth.none mix Go.Proofs.Tryd.func29 (annd52 n) (fun hw => by rw [← vcd52 n]; exact pured52 n)
  · cases h)

theorem sndd24 : Sound Go.Proofs.Tryd.prog Gd24 := sndd52.add ⟨_, Go.Proofs.Tryd.func18, by kernel_rfl, by kernel_rfl⟩ (by
  intro args ins out h hp
  unfold spd24 at h
  split at h
  · rename_i k n
    cases h
    exact vcFun_ok (C := Cd24) good sndd52 Meth.none mix Go.Proofs.Tryd.func18 (annd24 k n) (fun hw => by rw [← vcd24 k n]; exact pured24 k n)
  · cases h)

theorem sndd55 : Sound Go.Proofs.Tryd.prog Gd55 := sndd24.add ⟨_, Go.Proofs.Tryd.func96, by kernel_rfl, by kernel_rfl⟩ (by
  intro args ins out h hp
  unfold spd55 at h
  split at h
  · rename_i x i
    cases h
    exact vcFun_ok (C := Cd55) good sndd24 Meth.none mix Go.Proofs.Tryd.func96 (annd55 x i) (fun hw => by rw [← vcd55 x i]; exact pured55 x i hp (hwd55 hw))
  · cases h)

end Go.SL.A

/- Functions and what they are held to do: bound to their code. -/
namespace Go.SL.A
open Go Go.SL Go.SL.S
set_option maxRecDepth 100000
noncomputable def Cd47 : Ctx := ⟨Go.Proofs.Tryd.prog, D, Gd55, (fun _ _ => none), fun _ => []⟩
def annd47 (k : List Int) (n : Int) : Nat → St → Option Ann := fun _ _ => some ⟨Nat, [4, 5, 6], [1, 2], fun i => [(13, .v (.int .i64) (i : Int))], fun i => [(3, some ⟨false, true, .arr 4 (.int .i64), [(chipsK k n).take i ++ (List.replicate 4 0).drop i]⟩)], fun i => i ≤ 4, fun i => 4 - i⟩
def outd47 (k : List Int) (n : Int) : COut := ⟨[], .v (.arr 4 (.int .i64)) (chipsK k n), [], []⟩
def spd47 : Spec := fun args ins => match args, ins with
  | [⟨.arr 16 (.int .u8), k⟩, ⟨.int .i64, n⟩], [] => some (outd47 k n)
  | _, _ => none
def Gd47 := addG Gd55 58 spd47
def Pd47 (k : List Int) (n : Int) : Prop :=
 ∃ (x:Nat),((0=0∧0=0∧0=0∧0=(x:Int)∧(0:Int) :: List.replicate (nat_lit 3) (0:Int)=List.replicate 4 (0:Int)∧false=false∧numK k (99:Int) (n % 1016)=numK k (99:Int) (n % 1016)∧false=false∧(0:Int) :: List.replicate (nat_lit 3) (0:Int)=List.take
 x (chipsK k n) ++ List.drop x (List.replicate 4 (0:Int))∧false=false)∧x≤4)∧∀ (x:Nat),x≤4→(IntKind.min .i64≤(x:Int)∧(x:Int)≤IntKind.max .i64∧∀ (y:List Int),List.Mem y [List.take x (chipsK k n) ++ List.drop x (List.replicate 4 (0:Int))]→List.length
 y=4∧∀ (y_1:Int),List.Mem y_1 y→IntKind.min .i64≤y_1∧y_1≤IntKind.max .i64)→bif decide ((x:Int)<4) then ((0≤(x:Int)∧(x:Int)<(↑ (4:Nat):Int))∧(x:Int).toNat<4)∧(0≤(x:Int)∧(x:Int)<64)∧bif bitX (numK k (99:Int) (n % 1016)) (x:Int).toNat then
 ((0≤(x:Int)∧(x:Int)<(↑ (4:Nat):Int))∧(x:Int).toNat<4)∧∃ (y:Nat),(0=0∧0=0∧0=0∧IntKind.wrap .i64 ((x:Int)+1)=(y:Int)∧(0:Int) :: List.replicate (nat_lit 3) (0:Int)=List.replicate 4 (0:Int)∧false=false∧numK k (99:Int) (n % 1016)=numK k
 (99:Int) (n % 1016)∧false=false∧List.set (List.set (List.take x (chipsK k n) ++ List.drop x (List.replicate 4 (0:Int))) (x:Int).toNat (1:Int)) (x:Int).toNat (-1:Int)=List.take y (chipsK k n) ++ List.drop y (List.replicate 4 (0:Int))∧false=false)∧y≤4∧4
 - y<4 - x else ∃ (y:Nat),(0=0∧0=0∧0=0∧IntKind.wrap .i64 ((x:Int)+1)=(y:Int)∧(0:Int) :: List.replicate (nat_lit 3) (0:Int)=List.replicate 4 (0:Int)∧false=false∧numK k (99:Int) (n % 1016)=numK k (99:Int) (n % 1016)∧false=false∧List.set
 (List.take x (chipsK k n) ++ List.drop x (List.replicate 4 (0:Int))) (x:Int).toNat (1:Int)=List.take y (chipsK k n) ++ List.drop y (List.replicate 4 (0:Int))∧false=false)∧y≤4∧4 - y<4 - x else List.append (List.take x (chipsK k n)) (List.drop
 x (List.replicate 4 (0:Int)))=chipsK k n
theorem vcd47 (k : List Int) (n : Int) : Pd47 k n = vcFun Cd47 (annd47 k n) Go.Proofs.Tryd.f58 [⟨.arr 16 (.int .u8), k⟩, ⟨.int .i64, n⟩] [] (outd47 k n) := by kernel_rfl

noncomputable def Cd20 : Ctx := ⟨Go.Proofs.Tryd.prog, D, Gd47, (fun _ _ => none), fun _ => []⟩
def annd20 (_k : List Int) (_n : Int) : Nat → St → Option Ann := fun _ _ => none
def outd20 (k : List Int) (n : Int) : COut := ⟨[], .v (.arr 4 (.int .i64)) (chipsK k n), [], []⟩
def spd20 : Spec := fun args ins => match args, ins with
  | [⟨.arr 16 (.int .u8), k⟩, ⟨.int .i64, n⟩], [] => some (outd20 k n)
  | _, _ => none
def Gd20 := addG Gd47 53 spd20
def Pd20 (k : List Int) (n : Int) : Prop :=
 (((0:Int)≤0∧(0:Int)≤100)∧((0:Int)≤1∧(1:Int)≤100)∧((0:Int)≤2∧(2:Int)≤100)∧(0:Int)≤3∧(3:Int)≤100)∧IntKind.wrap .i64 (1 - IntKind.wrap .i64 ((2:Int) * if bitX (numK k (99:Int) (n % 1016)) (0:Nat)=true then (1:Int) else (0:Int))) :: List.set
 (List.set (List.set (List.replicate (nat_lit 3) (0:Int)) (nat_lit 0) (IntKind.wrap .i64 (1 - IntKind.wrap .i64 ((2:Int) * if bitX (numK k (99:Int) (n % 1016)) (1:Nat)=true then (1:Int) else (0:Int))))) (nat_lit 1) (IntKind.wrap .i64
 (1 - IntKind.wrap .i64 ((2:Int) * if bitX (numK k (99:Int) (n % 1016)) (2:Nat)=true then (1:Int) else (0:Int))))) (nat_lit 2) (IntKind.wrap .i64 (1 - IntKind.wrap .i64 ((2:Int) * if bitX (numK k (99:Int) (n % 1016)) (3:Nat)=true then
 (1:Int) else (0:Int))))=chipsK k n
theorem vcd20 (k : List Int) (n : Int) : Pd20 k n = vcFun Cd20 (annd20 k n) Go.Proofs.Tryd.f53 [⟨.arr 16 (.int .u8), k⟩, ⟨.int .i64, n⟩] [] (outd20 k n) := by kernel_rfl

end Go.SL.A

/- A frame's chips. -/
namespace Go.SL.A
open Go Go.SL Go.SL.S
set_option maxRecDepth 100000

theorem chipK_len (x : Int) : (chipK x).length = 4 := by simp [chipK]
theorem chipK_at (x : Int) {i : Nat} (hi : i < 4) : (chipK x)[i]? = some (if bitX x i then -1 else 1) := by
  unfold chipK; rw [List.getElem?_map, List.getElem?_range hi]; rfl
theorem pured47 (k : List Int) (n : Int) : Pd47 k n := by
  unfold Pd47
  unfold chipsK
  have z : (0 : Int) :: List.replicate 3 0 = List.replicate 4 0 := rfl
  simp only [eq_self, true_and, and_true, Int.toNat_natCast, z]
  generalize numK k 99 (n % 1016) = x
  have hl := chipK_len x
  have ha : ∀ i, i < 4 → (chipK x)[i]? = some (if bitX x i then -1 else 1) := fun i hi => chipK_at x hi
  generalize chipK x = f at *
  refine ⟨0, ⟨⟨rfl, rfl⟩, by omega⟩, fun i hi hw => ?_⟩
  clear hw
  by_cases h : (i : Int) < 4
  · have hv := ha i (by omega)
    rw [decide_eq_true h, cond_true, List.set_set]
    refine ⟨⟨⟨by omega, by omega⟩, by omega⟩, ⟨by omega, by omega⟩, ?_⟩
    cases hb : bitX x i with
    | true =>
      rw [hb, if_pos rfl] at hv
      rw [cond_true]
      exact ⟨⟨⟨by omega, by omega⟩, by omega⟩, i + 1, ⟨step_i (by omega), set_step (by omega) (by rw [List.length_replicate]; omega) hv⟩, by omega, by omega⟩
    | false =>
      rw [hb, if_neg (by simp)] at hv
      rw [cond_false]
      exact ⟨i + 1, ⟨step_i (by omega), set_step (by omega) (by rw [List.length_replicate]; omega) hv⟩, by omega, by omega⟩
  · have : i = 4 := by omega
    subst this
    rw [decide_eq_false h, cond_false]
    show List.take 4 f ++ List.drop 4 (List.replicate 4 0) = f
    rw [List.take_of_length_le (by omega), List.drop_eq_nil_of_le (by rw [List.length_replicate]; omega), List.append_nil]
theorem chip1 (b : Bool) : IntKind.i64.wrap (1 - IntKind.i64.wrap (2 * if b = true then 1 else 0)) = if b = true then -1 else 1 := by cases b <;> decide
theorem pured20 (k : List Int) (n : Int) : Pd20 k n := by
  unfold Pd20
  unfold chipsK
  simp only [chip1]
  refine ⟨⟨⟨by decide, by decide⟩, ⟨by decide, by decide⟩, ⟨by decide, by decide⟩, by decide, by decide⟩, ?_⟩
  generalize numK k 99 (n % 1016) = x
  rfl
end Go.SL.A

/- Functions do what they are held to do. -/
namespace Go.SL.A
open Go Go.SL Go.SL.S
theorem sndd47 : Sound Go.Proofs.Tryd.prog Gd47 := sndd55.add ⟨_, Go.Proofs.Tryd.func58, by kernel_rfl, by kernel_rfl⟩ (by
  intro args ins out h hp
  unfold spd47 at h
  split at h
  · rename_i k n
    cases h
    exact vcFun_ok (C := Cd47) good sndd55 Meth.none mix Go.Proofs.Tryd.func58 (annd47 k n) (fun hw => by rw [← vcd47 k n]; exact pured47 k n)
  · cases h)

theorem sndd20 : Sound Go.Proofs.Tryd.prog Gd20 := sndd47.add ⟨_, Go.Proofs.Tryd.func53, by kernel_rfl, by kernel_rfl⟩ (by
  intro args ins out h hp
  unfold spd20 at h
  split at h
  · rename_i k n
    cases h
    exact vcFun_ok (C := Cd20) good sndd47 Meth.none mix Go.Proofs.Tryd.func53 (annd20 k n) (fun hw => by rw [← vcd20 k n]; exact pured20 k n)
  · cases h)

end Go.SL.A

/- Plain functions of pvq. -/
namespace Go.SL.S
open Go

def sz13 (x : Int) : Int := if x < -12 ∨ 12 < x then 13 else max x (-x)

def cntRow (prev : Nat → Int) : Nat → Int
  | 0 => prev 0
  | k + 1 => cntRow prev k + prev k + prev (k + 1)
def cnt0 : Nat → Int
  | 0 => 1
  | _ + 1 => 0
/-- So many vectors of n numbers have k pulses. -/
def cnt : Nat → Nat → Int
  | 0 => cnt0
  | n + 1 => cntRow (cnt n)

def sumTo (f : Nat → Int) : Nat → Int
  | 0 => 0
  | j + 1 => sumTo f j + f j

def tab (f : Nat → Nat → Int) : List (List Int) := (List.range 9).map fun m => (List.range 13).map fun j => f m j
def f1 (n m j : Nat) : Int := if m < n then cnt m j else 0
def f2 (n k m j : Nat) : Int := if m < n ∨ (m = n ∧ j < k) then cnt m j else 0
def f3 (n k i m j : Nat) : Int := if m < n ∨ (m = n ∧ j < k) then cnt m j else if m = n ∧ j = k then cnt (n - 1) k + 2 * sumTo (cnt (n - 1)) i else 0

def mayF (n k : Int) : Bool := decide (0 ≤ n ∧ n ≤ 8 ∧ 0 ≤ k ∧ k ≤ 12)
def countF (n k : Int) : Int := if mayF n k then cnt n.toNat k.toNat else 0

def sumSz : List Int → Int
  | [] => 0
  | x :: l => sz13 x + sumSz l
def pulsesF (y : List Int) : Int := if 8 < y.length then 13 else min (sumSz y) 13

/-- 0, 1, -1, 2, .. up to k. -/
def numsF : Nat → List Int
  | 0 => [0]
  | k + 1 => numsF k ++ [((k + 1 : Nat) : Int), -((k + 1 : Nat) : Int)]

def idxFrom (v : Int) : List Int → Nat → Int
  | [], _ => -1
  | x :: l, i => if v = x then (i : Int) else idxFrom v l (i + 1)
def idxF (l : List Int) (v : Int) : Int := idxFrom v l 0
end Go.SL.S
namespace Go.SL.A
open Go Go.SL
end Go.SL.A

/- Functions and what they are held to do: bound to their code. -/
namespace Go.SL.A
open Go Go.SL Go.SL.S
set_option maxRecDepth 100000
end Go.SL.A

namespace Go.SL.A
open Go Go.SL Go.SL.S

/-! ### Counts -/

theorem cnt_sum (n : Nat) : ∀ k, cnt (n + 1) k = cnt n k + 2 * sumTo (cnt n) k
  | 0 => by simp [cnt, cntRow, sumTo]
  | k + 1 => by
    rw [show cnt (n + 1) (k + 1) = cnt (n + 1) k + cnt n k + cnt n (k + 1) from rfl, cnt_sum n k, sumTo]
    omega

theorem cnt_le : ∀ n k, 0 ≤ cnt n k ∧ cnt n k ≤ ((3 ^ (n + k) : Nat) : Int)
  | 0, 0 => by decide
  | 0, k + 1 => by
    have : cnt 0 (k + 1) = 0 := rfl
    rw [this]
    exact ⟨Int.le_refl _, Int.natCast_nonneg _⟩
  | n + 1, 0 => by
    have := cnt_le n 0
    rw [show cnt (n + 1) 0 = cnt n 0 from rfl]
    have e : (3 : Nat) ^ (n + 1) = 3 * 3 ^ n := by rw [Nat.pow_succ]; omega
    simp only [Nat.add_zero] at *
    omega
  | n + 1, k + 1 => by
    have h1 := cnt_le (n + 1) k
    have h2 := cnt_le n k
    have h3 := cnt_le n (k + 1)
    rw [show cnt (n + 1) (k + 1) = cnt (n + 1) k + cnt n k + cnt n (k + 1) from rfl]
    have e1 : 3 ^ (n + 1 + k) = 3 * 3 ^ (n + k) := by rw [show n + 1 + k = n + k + 1 by omega, Nat.pow_succ]; omega
    have e2 : 3 ^ (n + (k + 1)) = 3 * 3 ^ (n + k) := by rw [show n + (k + 1) = n + k + 1 by omega, Nat.pow_succ]; omega
    have e3 : 3 ^ (n + 1 + (k + 1)) = 9 * 3 ^ (n + k) := by rw [show n + 1 + (k + 1) = n + k + 1 + 1 by omega, Nat.pow_succ, Nat.pow_succ]; omega
    omega

/-! ### Tables -/

/-! ### The functions -/

theorem sz13_le (x : Int) : 0 ≤ sz13 x ∧ sz13 x ≤ 13 := by unfold sz13; split <;> omega

theorem sumSz_le : ∀ a : List Int, 0 ≤ sumSz a ∧ sumSz a ≤ 13 * (a.length : Int)
  | [] => by simp [sumSz]
  | x :: a => by have := sumSz_le a; have := sz13_le x; simp only [sumSz, List.length_cons]; omega


theorem numsF_len : ∀ k, (numsF k).length = 2 * k + 1
  | 0 => rfl
  | k + 1 => by simp [numsF, numsF_len k]; omega

end Go.SL.A

/- Functions do what they are held to do. -/
namespace Go.SL.A
open Go Go.SL Go.SL.S
end Go.SL.A

/- Plain functions of pvq, more. -/
namespace Go.SL.S
open Go

def sumBy (n K : Nat) : List Int → Int
  | [] => 0
  | z :: l => cnt n (K - (sz13 z).toNat) + sumBy n K l

/-- A vector's number. -/
def numF : List Int → Int
  | [] => 0
  | x :: ys => sumBy ys.length (sumSz (x :: ys)).toNat ((numsF (sumSz (x :: ys)).toNat).take (idxF (numsF (sumSz (x :: ys)).toNat) x).toNat) + numF ys
def indexF (y : List Int) : Int × Int := if 12 < pulsesF y then (0, 7) else (numF y, 0)

def pickF (n K : Nat) : List Int → Int → Nat → Int × Int
  | [], i, _ => (-1, i)
  | z :: l, i, j => if i < cnt n (K - (sz13 z).toNat) then ((j : Int), i) else pickF n K l (i - cnt n (K - (sz13 z).toNat)) (j + 1)

/-- How many pulses are left, the number that is left, and the numbers so far. -/
def vst (n : Nat) (k i : Int) : Nat → Int × Int × List Int
  | 0 => (k, i, [])
  | a + 1 =>
    let s := vst n k i a
    let p := pickF (n - a - 1) s.1.toNat (numsF s.1.toNat) s.2.1 0
    let z := (numsF s.1.toNat).getD p.1.toNat 0
    (s.1 - sz13 z, p.2, s.2.2 ++ [z])
def vecF (n k i : Int) : List Int := if mayF n k = true ∧ 0 ≤ i ∧ i < countF n k then (vst n.toNat k i n.toNat).2.2 else []
def bitLen (m : Nat) : Nat := if m = 0 then 0 else m.log2 + 1
def bitsF (k : Int) : Int := (bitLen (countF 4 k - 1).toNat : Nat)
end Go.SL.S

/- Functions and what they are held to do: bound to their code. -/
namespace Go.SL.A
open Go Go.SL Go.SL.S
set_option maxRecDepth 100000
end Go.SL.A

namespace Go.SL.A
open Go Go.SL Go.SL.S

end Go.SL.A

/- Functions do what they are held to do. -/
namespace Go.SL.A
open Go Go.SL Go.SL.S
end Go.SL.A

/- Functions and what they are held to do: bound to their code. -/
namespace Go.SL.A
open Go Go.SL Go.SL.S
set_option maxRecDepth 100000
end Go.SL.A

/- Vectors of pulses: plain laws. -/
namespace Go.SL.A
open Go Go.SL Go.SL.S

theorem mem_numsF {z : Int} : ∀ {K : Nat}, z ∈ numsF K ↔ -(K : Int) ≤ z ∧ z ≤ (K : Int)
  | 0 => by simp [numsF]; omega
  | K + 1 => by
    simp only [numsF, List.mem_append, mem_numsF, List.mem_cons, List.not_mem_nil, or_false]
    omega

theorem sumBy_append (n K : Nat) : ∀ p q : List Int, sumBy n K (p ++ q) = sumBy n K p + sumBy n K q
  | [], q => by simp [sumBy]
  | x :: p, q => by simp only [List.cons_append, sumBy, sumBy_append n K p q]; omega

theorem sumBy_nn (n K : Nat) : ∀ l : List Int, 0 ≤ sumBy n K l
  | [] => by simp [sumBy]
  | x :: l => by have := sumBy_nn n K l; have := (cnt_le n (K - (sz13 x).toNat)).1; simp only [sumBy]; omega

def revTo (f : Nat → Int) (K : Nat) : Nat → Int
  | 0 => 0
  | J + 1 => revTo f K J + f (K - (J + 1))

theorem revTo_sum (f : Nat → Int) (K : Nat) : ∀ J, J ≤ K → sumTo f K = sumTo f (K - J) + revTo f K J
  | 0, _ => by simp [revTo]
  | J + 1, h => by
    have ih := revTo_sum f K J (by omega)
    have e : K - J = (K - (J + 1)) + 1 := by omega
    rw [e, sumTo] at ih
    rw [revTo]; omega

theorem sz13_small {z : Int} (h1 : -12 ≤ z) (h2 : z ≤ 12) : sz13 z = max z (-z) := by
  unfold sz13; rw [if_neg (by omega)]

theorem sumBy_nums (n K : Nat) (hK : K ≤ 12) : ∀ J, J ≤ K → sumBy n K (numsF J) = cnt n K + 2 * revTo (cnt n) K J
  | 0, _ => by
    have e : sz13 0 = 0 := by decide
    simp [numsF, sumBy, revTo, e]
  | J + 1, h => by
    rw [numsF, sumBy_append, sumBy_nums n K hK J (by omega), revTo]
    have e1 : (sz13 ((J + 1 : Nat) : Int)).toNat = J + 1 := by rw [sz13_small (by omega) (by omega)]; omega
    have e2 : (sz13 (-((J + 1 : Nat) : Int))).toNat = J + 1 := by rw [sz13_small (by omega) (by omega)]; omega
    simp only [sumBy, e1, e2]; omega

/-- Of n + 1 numbers there are as many vectors as of n numbers behind each first one. -/
theorem sumBy_all {n K : Nat} (hK : K ≤ 12) : sumBy n K (numsF K) = cnt (n + 1) K := by
  rw [sumBy_nums n K hK K (Nat.le_refl _), cnt_sum, revTo_sum (cnt n) K K (Nat.le_refl _)]
  simp [sumTo]

theorem pick_spec (n K : Nat) : ∀ (l : List Int) (i : Int) (j : Nat), 0 ≤ i → i < sumBy n K l →
    ∃ p, p < l.length ∧ pickF n K l i j = (((j + p : Nat) : Int), i - sumBy n K (l.take p)) ∧ 0 ≤ i - sumBy n K (l.take p) ∧ i - sumBy n K (l.take p) < cnt n (K - (sz13 (l.getD p 0)).toNat)
  | [], i, j, h0, h => by simp [sumBy] at h; omega
  | z :: l, i, j, h0, h => by
    rw [pickF]
    by_cases hc : i < cnt n (K - (sz13 z).toNat)
    · rw [if_pos hc]
      exact ⟨0, by simp, by simp [sumBy], by simpa [sumBy] using h0, by simpa [sumBy] using hc⟩
    · rw [if_neg hc]
      simp only [sumBy] at h
      obtain ⟨p, h1, h2, h3, h4⟩ := pick_spec n K l (i - cnt n (K - (sz13 z).toNat)) (j + 1) (by omega) (by omega)
      refine ⟨p + 1, by simp; omega, ?_, ?_, ?_⟩
      · rw [h2, List.take_succ_cons, sumBy]
        congr 1
        · congr 1; omega
        · omega
      · rw [List.take_succ_cons, sumBy]; omega
      · rw [List.take_succ_cons, sumBy, List.getD_cons_succ]; omega

/-- What holds while a vector is found. -/
structure VI (n a : Nat) (k : Int) (s : Int × Int × List Int) : Prop where
  k0 : 0 ≤ s.1
  k1 : s.1 ≤ 12
  i0 : 0 ≤ s.2.1
  i1 : s.2.1 < cnt (n - a) s.1.toNat
  len : s.2.2.length = a
  sum : sumSz s.2.2 + s.1 = k
  rng : ∀ z ∈ s.2.2, -12 ≤ z ∧ z ≤ 12

end Go.SL.A

namespace Go.SL.A
open Go Go.SL Go.SL.S

end Go.SL.A

/- Vectors' numbers: plain laws; the code of Index. -/
namespace Go.SL.A
open Go Go.SL Go.SL.S

theorem idx_mem {v : Int} : ∀ {l : List Int} (i : Nat), v ∈ l → ∃ p, p < l.length ∧ idxFrom v l i = ((i + p : Nat) : Int) ∧ l.getD p 0 = v
  | [], i, h => by cases h
  | x :: l, i, h => by
    by_cases e : v = x
    · subst e
      exact ⟨0, by simp, by simp [idxFrom], by simp⟩
    · have h2 : v ∈ l := by rcases List.mem_cons.1 h with h | h; exact absurd h e; exact h
      obtain ⟨p, h1, h3, h4⟩ := idx_mem (i + 1) h2
      refine ⟨p + 1, by simp; omega, ?_, by rw [List.getD_cons_succ]; exact h4⟩
      rw [idxFrom, if_neg e, h3]; congr 1; omega

theorem sumBy_take_succ (n K : Nat) {l : List Int} {p : Nat} (h : p < l.length) : sumBy n K (l.take (p + 1)) = sumBy n K (l.take p) + cnt n (K - (sz13 (l.getD p 0)).toNat) := by
  rw [take_snoc' 0 h, sumBy_append]; simp [sumBy]

theorem sumBy_take_le (n K : Nat) (l : List Int) (p : Nat) : sumBy n K (l.take p) ≤ sumBy n K l := by
  have h := sumBy_append n K (l.take p) (l.drop p)
  rw [List.take_append_drop] at h
  have := sumBy_nn n K (l.drop p); omega

theorem sz13_le12 {x : Int} (h : sz13 x ≤ 12) : -12 ≤ x ∧ x ≤ 12 ∧ (sz13 x = x ∨ sz13 x = -x) := by
  unfold sz13 at *
  split at h
  · omega
  · rename_i h1; rw [if_neg h1]; omega

/-- A first number, and those that follow. -/
theorem numF_cons {x : Int} {ys : List Int} (h : sumSz (x :: ys) ≤ 12) : ∃ p : Nat, p < (numsF (sumSz (x :: ys)).toNat).length ∧ idxF (numsF (sumSz (x :: ys)).toNat) x = (p : Int) ∧ (numsF (sumSz (x :: ys)).toNat).getD p 0 = x ∧
    numF (x :: ys) = sumBy ys.length (sumSz (x :: ys)).toNat ((numsF (sumSz (x :: ys)).toNat).take p) + numF ys ∧ (sumSz (x :: ys)).toNat - (sz13 x).toNat = (sumSz ys).toNat := by
  have h1 := sumSz_le ys
  have h2 := sz13_le x
  have e : sumSz (x :: ys) = sz13 x + sumSz ys := rfl
  have h3 := sz13_le12 (x := x) (by omega)
  have hm : x ∈ numsF (sumSz (x :: ys)).toNat := mem_numsF.2 (by omega)
  obtain ⟨p, p1, p2, p3⟩ := idx_mem 0 hm
  rw [Nat.zero_add] at p2
  refine ⟨p, p1, p2, p3, ?_, by omega⟩
  rw [numF, show idxF (numsF (sumSz (x :: ys)).toNat) x = (p : Int) from p2, Int.toNat_natCast]

theorem numF_lt : ∀ {y : List Int}, sumSz y ≤ 12 → 0 ≤ numF y ∧ numF y < cnt y.length (sumSz y).toNat
  | [], _ => by simp [numF, sumSz, cnt, cnt0]
  | x :: ys, h => by
    have e : sumSz (x :: ys) = sz13 x + sumSz ys := rfl
    have h1 := sumSz_le ys
    have h2 := sz13_le x
    obtain ⟨p, p1, p2, p3, p4, p5⟩ := numF_cons h
    obtain ⟨i1, i2⟩ := numF_lt (y := ys) (by omega)
    have s1 := sumBy_take_succ ys.length (sumSz (x :: ys)).toNat p1
    rw [p3, p5] at s1
    have s2 := sumBy_take_le ys.length (sumSz (x :: ys)).toNat (numsF (sumSz (x :: ys)).toNat) (p + 1)
    rw [sumBy_all (by omega)] at s2
    have s3 := sumBy_nn ys.length (sumSz (x :: ys)).toNat ((numsF (sumSz (x :: ys)).toNat).take p)
    rw [p4, List.length_cons]
    omega

end Go.SL.A

/- Functions do what they are held to do. -/
namespace Go.SL.A
open Go Go.SL Go.SL.S
end Go.SL.A

/- Plain functions of the statements on pvq. -/
namespace Go.SL.S
open Go
end Go.SL.S

/- Functions and what they are held to do: bound to their code. -/
namespace Go.SL.A
open Go Go.SL Go.SL.S
set_option maxRecDepth 100000
end Go.SL.A

namespace Go.SL.A
open Go Go.SL Go.SL.S
end Go.SL.A

/- Functions do what they are held to do. -/
namespace Go.SL.A
open Go Go.SL Go.SL.S
end Go.SL.A

/- Vectors and their numbers: plain laws. -/
namespace Go.SL.A
open Go Go.SL Go.SL.S

/-- Which place a number has among 0, 1, -1, 2, .. -/
def rk (x : Int) : Nat := if 0 < x then (2 * x - 1).toNat else (-2 * x).toNat

theorem sumBy_take_mono (n K : Nat) (l : List Int) {p q : Nat} (h : p ≤ q) : sumBy n K (l.take p) ≤ sumBy n K (l.take q) := by
  have := sumBy_take_le n K (l.take q) p
  rwa [List.take_take, Nat.min_eq_left h] at this

theorem pick_at {n K : Nat} {l : List Int} {i : Int} {p : Nat} (hp : p < l.length) (h0 : sumBy n K (l.take p) ≤ i) (h1 : i < sumBy n K (l.take (p + 1))) : pickF n K l i 0 = ((p : Int), i - sumBy n K (l.take p)) := by
  have hle := sumBy_take_le n K l (p + 1)
  have hnn := sumBy_nn n K (l.take p)
  obtain ⟨q, q1, q2, q3, q4⟩ := pick_spec n K l i 0 (by omega) (by omega)
  have hs := sumBy_take_succ n K q1
  have : q = p := by
    rcases Nat.lt_trichotomy q p with h | h | h
    · have := sumBy_take_mono n K l (show q + 1 ≤ p by omega); omega
    · exact h
    · have := sumBy_take_mono n K l (show p + 1 ≤ q by omega); omega
  subst this
  rw [q2, Nat.zero_add]

/-- The first number, and what is left behind it. -/
theorem vst_cons (n : Nat) (k i : Int) : ∀ a, vst (n + 1) k i (a + 1) = ((vst n (vst (n + 1) k i 1).1 (vst (n + 1) k i 1).2.1 a).1, (vst n (vst (n + 1) k i 1).1 (vst (n + 1) k i 1).2.1 a).2.1, (vst (n + 1) k i 1).2.2 ++ (vst n (vst (n + 1) k i 1).1 (vst (n + 1) k i 1).2.1 a).2.2)
  | 0 => by
    show vst (n + 1) k i 1 = _
    simp only [vst, List.append_nil]
  | a + 1 => by
    have ih := vst_cons n k i a
    rw [show vst (n + 1) k i (a + 1 + 1) = (fun s : Int × Int × List Int => (s.1 - sz13 ((numsF s.1.toNat).getD (pickF (n + 1 - (a + 1) - 1) s.1.toNat (numsF s.1.toNat) s.2.1 0).1.toNat 0), (pickF (n + 1 - (a + 1) - 1) s.1.toNat (numsF s.1.toNat) s.2.1 0).2, s.2.2 ++ [(numsF s.1.toNat).getD (pickF (n + 1 - (a + 1) - 1) s.1.toNat (numsF s.1.toNat) s.2.1 0).1.toNat 0])) (vst (n + 1) k i (a + 1)) from rfl, ih]
    generalize vst (n + 1) k i 1 = t
    rw [show vst n t.1 t.2.1 (a + 1) = (fun s : Int × Int × List Int => (s.1 - sz13 ((numsF s.1.toNat).getD (pickF (n - a - 1) s.1.toNat (numsF s.1.toNat) s.2.1 0).1.toNat 0), (pickF (n - a - 1) s.1.toNat (numsF s.1.toNat) s.2.1 0).2, s.2.2 ++ [(numsF s.1.toNat).getD (pickF (n - a - 1) s.1.toNat (numsF s.1.toNat) s.2.1 0).1.toNat 0])) (vst n t.1 t.2.1 a) from rfl]
    rw [show n + 1 - (a + 1) - 1 = n - a - 1 by omega]
    simp only [List.append_assoc]

/-- A vector by its first number's place. -/
theorem vst_first {n : Nat} {k i : Int} (_hk0 : 0 ≤ k) (_hk : k ≤ 12) {p : Nat} (hp : p < 2 * k.toNat + 1) (h0 : sumBy n k.toNat ((numsF k.toNat).take p) ≤ i) (h1 : i < sumBy n k.toNat ((numsF k.toNat).take (p + 1))) :
    (vst (n + 1) k i (n + 1)).2.2 = (numsF k.toNat).getD p 0 :: (vst n (k - sz13 ((numsF k.toNat).getD p 0)) (i - sumBy n k.toNat ((numsF k.toNat).take p)) n).2.2 := by
  have hl := numsF_len k.toNat
  have hpk := pick_at (n := n) (K := k.toNat) (l := numsF k.toNat) (by omega) h0 h1
  have e1 : vst (n + 1) k i 1 = (k - sz13 ((numsF k.toNat).getD p 0), i - sumBy n k.toNat ((numsF k.toNat).take p), [(numsF k.toNat).getD p 0]) := by
    simp only [vst, Nat.add_sub_cancel, Nat.sub_zero, hpk, Int.toNat_natCast, List.nil_append]
  rw [vst_cons, e1]; rfl

/-- The vector of a vector's number is that vector. -/
theorem vst_back : ∀ {y : List Int}, y.length ≤ 8 → sumSz y ≤ 12 → (vst y.length (sumSz y) (numF y) y.length).2.2 = y
  | [], _, _ => rfl
  | x :: ys, hn, hk => by
    have h1 := sumSz_le ys
    have h2 := sz13_le x
    have e : sumSz (x :: ys) = sz13 x + sumSz ys := rfl
    obtain ⟨p, p1, p2, p3, p4, p5⟩ := numF_cons hk
    obtain ⟨n0, n1⟩ := numF_lt (y := ys) (by omega)
    have hl := numsF_len (sumSz (x :: ys)).toNat
    have hs := sumBy_take_succ ys.length (sumSz (x :: ys)).toNat p1
    rw [p3, p5] at hs
    have hf := vst_first (n := ys.length) (k := sumSz (x :: ys)) (i := numF (x :: ys)) (by omega) hk (p := p) (by omega) (by omega) (by omega)
    rw [p3] at hf
    rw [List.length_cons, hf]
    have e2 : sumSz (x :: ys) - sz13 x = sumSz ys := by omega
    have e3 : numF (x :: ys) - sumBy ys.length (sumSz (x :: ys)).toNat ((numsF (sumSz (x :: ys)).toNat).take p) = numF ys := by omega
    rw [e2, e3, vst_back (y := ys) (by simp at hn; omega) (by omega)]

/-! ### The functions of the program -/

theorem may_iff {n k : Int} : mayF n k = true ↔ 0 ≤ n ∧ n ≤ 8 ∧ 0 ≤ k ∧ k ≤ 12 := by simp [mayF]

theorem index_ok {y : List Int} (h : (indexF y).2 = 0) : y.length ≤ 8 ∧ sumSz y ≤ 12 ∧ pulsesF y = sumSz y ∧ indexF y = (numF y, 0) ∧ 0 ≤ numF y ∧ numF y < countF y.length (sumSz y) ∧ vecF y.length (sumSz y) (numF y) = y := by
  have hp : ¬ 12 < pulsesF y := fun e => by unfold indexF at h; rw [if_pos e] at h; cases h
  have hl : ¬ 8 < y.length := fun e => by apply hp; unfold pulsesF; rw [if_pos e]; decide
  have hps : pulsesF y = min (sumSz y) 13 := by unfold pulsesF; rw [if_neg hl]
  have h0 := sumSz_le y
  have hn := numF_lt (y := y) (by omega)
  have hm : mayF (y.length : Int) (sumSz y) = true := may_iff.2 (by omega)
  have hc : countF y.length (sumSz y) = cnt y.length (sumSz y).toNat := by unfold countF; rw [hm]; rfl
  refine ⟨by omega, by omega, by omega, by unfold indexF; rw [if_neg hp], hn.1, by omega, ?_⟩
  unfold vecF
  rw [if_pos ⟨hm, hn.1, by omega⟩]
  exact vst_back (by omega) (by omega)

end Go.SL.A

/- Plain functions of the document's answer for pvq. -/
namespace Go.SL.S
open Go Go.SL.A
def szR (x : Int) : Int := if x < 0 then IntKind.i64.wrap (0 - x) else x
def g1 (i a j : Nat) : Int := if j < a then cnt (i + 1) j else 0
def ptF (i a x : Nat) : Int := if x = 0 then 0 else cnt i a + 2 * revTo (cnt i) a (x - 1)
def g2 (i a x j : Nat) : Int := if j < a then cnt (i + 1) j else if j = a then ptF i a x else 0
end Go.SL.S

/- Functions and what they are held to do: bound to their code. -/
namespace Go.SL.A
open Go Go.SL Go.SL.S
set_option maxRecDepth 100000
end Go.SL.A

/- How the document counts vectors: proofs. -/
namespace Go.SL.A
open Go Go.SL Go.SL.S

end Go.SL.A

/- Functions do what they are held to do. -/
namespace Go.SL.A
open Go Go.SL Go.SL.S
end Go.SL.A

/- The document's vectors of four, in order: plain functions. -/
namespace Go.SL.S
open Go
end Go.SL.S
namespace Go.SL.A
open Go Go.SL
def G49v := viewG Gd20
theorem snd49v : Sound Go.Proofs.Tryd.prog G49v := sndd20.view
end Go.SL.A

/- Functions and what they are held to do: bound to their code. -/
namespace Go.SL.A
open Go Go.SL Go.SL.S
set_option maxRecDepth 100000
end Go.SL.A

/- The document's vectors of four: the code. -/
namespace Go.SL.A
open Go Go.SL Go.SL.S

theorem szR_nums {K : Nat} (hK : K ≤ 12) {z : Int} (h : z ∈ numsF K) : 0 ≤ szR z ∧ szR z ≤ K ∧ (szR z = z ∨ szR z = -z) := by
  have := mem_numsF.1 h
  unfold szR
  split
  · rw [w64 (by omega) (by omega)]; omega
  · omega

end Go.SL.A

/- Functions do what they are held to do. -/
namespace Go.SL.A
open Go Go.SL Go.SL.S
end Go.SL.A

/- Methods of types that lie in interfaces: none of pulse's here. -/
namespace Go.SL.A
open Go Go.SL
end Go.SL.A

/- Plain functions of pulse. -/
namespace Go.SL.S
open Go Go.SL
def gainF (s : Int) : Int := if s < 0 ∨ 15 < s then 0 else 2 ^ s.toNat
def absF (x : Int) : Int := max x (-x)
def heldF (c : List Int) : Bool := c.all fun x => decide (-1048576 ≤ x ∧ x ≤ 1048576)
def fallF (s n g : Int) : Int := absF (s - n * g) - absF (s - (n + 1) * g)
end Go.SL.S

/- Functions and what they are held to do: bound to their code. -/
namespace Go.SL.A
open Go Go.SL Go.SL.S
set_option maxRecDepth 100000
end Go.SL.A

/- Pulse: small functions. -/
namespace Go.SL.A
open Go Go.SL Go.SL.S

theorem absF_le (x : Int) : 0 ≤ absF x ∧ (absF x = x ∨ absF x = -x) := by unfold absF; omega

end Go.SL.A

/- Functions do what they are held to do. -/
namespace Go.SL.A
open Go Go.SL Go.SL.S
end Go.SL.A

/- Heaps: plain functions. -/
namespace Go.SL.S
open Go Go.SL
abbrev W : Type := Int × Int × Int × Int
def wz : W := (0, 0, 0, 0)
def fallW (w : W) : Int := fallF w.2.1 w.2.2.1 w.2.2.2
def okW (w : W) : Prop := 0 ≤ w.2.1 ∧ w.2.1 ≤ 1048576 ∧ 0 ≤ w.2.2.1 ∧ w.2.2.1 ≤ 100 ∧ 0 ≤ w.2.2.2 ∧ w.2.2.2 ≤ 32768
def ltW (a b : W) : Bool := decide (fallW b < fallW a) || (decide (fallW a = fallW b) && decide (a.1 < b.1))
theorem ltW_ord : Ord ltW where
  asym := fun a b h => by
    simp only [ltW, Bool.or_eq_true, Bool.and_eq_true, decide_eq_true_eq, Bool.or_eq_false_iff, Bool.and_eq_false_iff, decide_eq_false_iff_not] at h ⊢
    omega
  tr := fun a b c h1 h2 => by
    simp only [ltW, Bool.or_eq_false_iff, Bool.and_eq_false_iff, decide_eq_false_iff_not] at h1 h2 ⊢
    omega
theorem ltW_fall {a b : W} (h : ltW a b = false) : fallW a ≤ fallW b := by
  simp only [ltW, Bool.or_eq_false_iff, decide_eq_false_iff_not] at h
  omega
end Go.SL.S

/- Functions and what they are held to do: bound to their code. -/
namespace Go.SL.A
open Go Go.SL Go.SL.S
set_option maxRecDepth 100000
end Go.SL.A

/- Heaps of wants: their methods. -/
namespace Go.SL.A
open Go Go.SL Go.SL.S

end Go.SL.A

/- Functions do what they are held to do. -/
namespace Go.SL.A
open Go Go.SL Go.SL.S
end Go.SL.A

/- Heaps: how far up and down takes. -/
namespace Go.SL.S
open Go Go.SL
end Go.SL.S

/- Functions and what they are held to do: bound to their code. -/
namespace Go.SL.A
open Go Go.SL Go.SL.S
set_option maxRecDepth 100000
end Go.SL.A

/- Heaps of wants: up, down, push, fix. -/
namespace Go.SL.A
open Go Go.SL Go.SL.S

end Go.SL.A

/- Functions do what they are held to do. -/
namespace Go.SL.A
open Go Go.SL Go.SL.S
end Go.SL.A

/- Pulses, found one by one: plain laws. -/
namespace Go.SL.S
open Go Go.SL

def bump (w : W) : W := (w.1, w.2.1, w.2.2.1 + 1, w.2.2.2)

def stepY (c y : List Int) (a : Nat) : List Int := y.set a (if c.getD a 0 < 0 then y.getD a 0 - 1 else y.getD a 0 + 1)

def stepF (c : List Int) (s : List W × List Int) : List W × List Int :=
  (fixL ltW wz (s.1.set 0 (bump (s.1.getD 0 wz))), stepY c s.2 (s.1.getD 0 wz).1.toNat)

def iterF (c : List Int) (s : List W × List Int) : Nat → List W × List Int
  | 0 => s
  | k + 1 => stepF c (iterF c s k)

def pushTo (c : List Int) (g : Int) : Nat → List W
  | 0 => []
  | k + 1 => pushL ltW wz (pushTo c g k) ((k : Int), absF (c.getD k 0), 0, g)

def findF (c : List Int) (g : Int) (k : Nat) : List Int := (iterF c (pushTo c g 4, [0, 0, 0, 0]) k).2

/-- The wants of coefficients and pulses. -/
def wsF (c y : List Int) (g : Int) : List W := [(0, absF (c.getD 0 0), absF (y.getD 0 0), g), (1, absF (c.getD 1 0), absF (y.getD 1 0), g), (2, absF (c.getD 2 0), absF (y.getD 2 0), g), (3, absF (c.getD 3 0), absF (y.getD 3 0), g)]

/-- Pulses have their coefficients' signs. -/
def sgn (c y : Int) : Prop := if c < 0 then y ≤ 0 else 0 ≤ y

def lam (s n g q : Int) : Prop := fallF s n g ≤ q ∧ (1 ≤ n → q ≤ fallF s (n - 1) g)

structure FI (c : List Int) (g : Int) (k : Nat) (s : List W × List Int) : Prop where
  perm : s.1.Perm (wsF c s.2 g)
  hp : Hp ltW wz s.1 4
  len : s.2.length = 4
  sg : ∀ i, i < 4 → sgn (c.getD i 0) (s.2.getD i 0)
  sum : absF (s.2.getD 0 0) + absF (s.2.getD 1 0) + absF (s.2.getD 2 0) + absF (s.2.getD 3 0) = k
  lm : ∃ q, ∀ i, i < 4 → lam (absF (c.getD i 0)) (absF (s.2.getD i 0)) g q

theorem len4 {α : Type} {l : List α} (h : l.length = 4) : ∃ a b c d, l = [a, b, c, d] := by
  match l, h with
  | [a, b, c, d], _ => exact ⟨a, b, c, d, rfl⟩

theorem fall_anti (s n g : Int) (hg : 0 ≤ g) : fallF s (n + 1) g ≤ fallF s n g := by
  unfold fallF absF
  have e1 : (n + 1) * g = n * g + g := by rw [Int.add_mul, Int.one_mul]
  have e2 : (n + 1 + 1) * g = n * g + g + g := by rw [Int.add_mul, Int.add_mul, Int.one_mul]
  rw [e1, e2]
  generalize n * g = m
  omega

theorem FI.at0 {c : List Int} {g : Int} {k : Nat} {s : List W × List Int} (h : FI c g k s) : ∃ i, i < 4 ∧ s.1.getD 0 wz = (((i : Nat) : Int), absF (c.getD i 0), absF (s.2.getD i 0), g) ∧
    (s.1.set 0 (bump (s.1.getD 0 wz))).Perm ((wsF c s.2 g).set i (bump (s.1.getD 0 wz))) ∧ ∀ j, j < 4 → fallF (absF (c.getD j 0)) (absF (s.2.getD j 0)) g ≤ fallF (absF (c.getD i 0)) (absF (s.2.getD i 0)) g := by
  have hl : s.1.length = 4 := by rw [h.perm.length_eq]; rfl
  have hf := h.hp.first ltW_ord
  have hp := h.perm
  obtain ⟨w0, w1, w2, w3, e⟩ := len4 hl
  rw [e] at hp hf ⊢
  have hmem : w0 ∈ wsF c s.2 g := hp.subset (by simp)
  have e0 : [w0, w1, w2, w3].getD 0 wz = w0 := rfl
  rw [e0] at hf ⊢
  have hmin : ∀ w ∈ wsF c s.2 g, fallW w ≤ fallW w0 := by
    intro w hw
    have hw := hp.symm.subset hw
    simp only [List.mem_cons, List.not_mem_nil, or_false] at hw
    rcases hw with rfl | rfl | rfl | rfl
    · omega
    · exact ltW_fall (hf 1 (by omega))
    · exact ltW_fall (hf 2 (by omega))
    · exact ltW_fall (hf 3 (by omega))
  have hj : ∀ j, j < 4 → fallF (absF (c.getD j 0)) (absF (s.2.getD j 0)) g ≤ fallW w0 := by
    intro j hj
    have : j = 0 ∨ j = 1 ∨ j = 2 ∨ j = 3 := by omega
    rcases this with rfl | rfl | rfl | rfl
    · exact hmin (0, absF (c.getD 0 0), absF (s.2.getD 0 0), g) (by simp [wsF])
    · exact hmin (1, absF (c.getD 1 0), absF (s.2.getD 1 0), g) (by simp [wsF])
    · exact hmin (2, absF (c.getD 2 0), absF (s.2.getD 2 0), g) (by simp [wsF])
    · exact hmin (3, absF (c.getD 3 0), absF (s.2.getD 3 0), g) (by simp [wsF])
  simp only [wsF, List.mem_cons, List.not_mem_nil, or_false] at hmem
  have set0 : ∀ x : W, [w0, w1, w2, w3].set 0 x = [x, w1, w2, w3] := fun _ => rfl
  have hq : ∀ (A B : List W) (x y : W), wsF c s.2 g = A ++ [x] ++ B → w0 = x → [y, w1, w2, w3].Perm (A ++ [y] ++ B) := by
    intro A B x y he hx
    rw [he, ← hx] at hp
    have h1 : (A ++ [w0] ++ B).Perm (w0 :: (A ++ B)) := by
      rw [List.append_assoc]; exact List.perm_middle
    have h2 : (A ++ [y] ++ B).Perm (y :: (A ++ B)) := by
      rw [List.append_assoc]; exact List.perm_middle
    exact (List.Perm.cons y (List.Perm.cons_inv (hp.trans h1))).trans h2.symm
  rcases hmem with e1 | e1 | e1 | e1
  · refine ⟨0, by omega, e1, ?_, fun j h => by have := hj j h; rw [e1] at this; exact this⟩
    rw [set0]; exact hq [] _ _ _ rfl e1
  · refine ⟨1, by omega, e1, ?_, fun j h => by have := hj j h; rw [e1] at this; exact this⟩
    rw [set0]; exact hq [_] _ _ _ rfl e1
  · refine ⟨2, by omega, e1, ?_, fun j h => by have := hj j h; rw [e1] at this; exact this⟩
    rw [set0]; exact hq [_, _] _ _ _ rfl e1
  · refine ⟨3, by omega, e1, ?_, fun j h => by have := hj j h; rw [e1] at this; exact this⟩
    rw [set0]; exact hq [_, _, _] _ _ _ rfl e1

theorem FI.step {c : List Int} {g : Int} (hg : 0 ≤ g) {k : Nat} {s : List W × List Int} (h : FI c g k s) : FI c g (k + 1) (stepF c s) := by
  obtain ⟨i, hi, e, hp, hm⟩ := h.at0
  have hl : s.1.length = 4 := by rw [h.perm.length_eq]; rfl
  have hlen := h.len
  have hsg := h.sg
  have hsum := h.sum
  obtain ⟨q, hq⟩ := h.lm
  have hh := fix_hp ltW_ord wz (l := s.1) (bump (s.1.getD 0 wz)) (by rw [hl]; exact h.hp)
  rw [hl] at hh
  have hat : (s.1.getD 0 wz).1.toNat = i := by rw [e]; simp
  have hstep : absF ((stepY c s.2 i).getD i 0) = absF (s.2.getD i 0) + 1 ∧ sgn (c.getD i 0) ((stepY c s.2 i).getD i 0) := by
    have hs := hsg i hi
    have : (stepY c s.2 i).getD i 0 = if c.getD i 0 < 0 then s.2.getD i 0 - 1 else s.2.getD i 0 + 1 := by
      simp [stepY, hlen, hi]
    rw [this]
    unfold sgn at hs ⊢
    unfold absF
    split at hs
    · rename_i hc; simp only [hc, if_true]; omega
    · rename_i hc; simp only [hc, if_false]; omega
  have hoth : ∀ j, j ≠ i → (stepY c s.2 i).getD j 0 = s.2.getD j 0 := by
    intro j hj
    simp only [stepY, List.getD_eq_getElem?_getD, List.getElem?_set]
    rw [if_neg (Ne.symm hj)]
  have hws : (wsF c s.2 g).set i (bump (s.1.getD 0 wz)) = wsF c (stepY c s.2 i) g := by
    rw [e]
    have : i = 0 ∨ i = 1 ∨ i = 2 ∨ i = 3 := by omega
    rcases this with rfl | rfl | rfl | rfl
    · simp only [wsF, bump, hstep.1, hoth 1 (by omega), hoth 2 (by omega), hoth 3 (by omega)]; rfl
    · simp only [wsF, bump, hstep.1, hoth 0 (by omega), hoth 2 (by omega), hoth 3 (by omega)]; rfl
    · simp only [wsF, bump, hstep.1, hoth 0 (by omega), hoth 1 (by omega), hoth 3 (by omega)]; rfl
    · simp only [wsF, bump, hstep.1, hoth 0 (by omega), hoth 1 (by omega), hoth 2 (by omega)]; rfl
  have e2 : stepF c s = (fixL ltW wz (s.1.set 0 (bump (s.1.getD 0 wz))), stepY c s.2 i) := by unfold stepF; rw [hat]
  rw [e2]
  refine ⟨?_, hh, by simp [stepY, hlen], fun j hj => ?_, ?_, fallF (absF (c.getD i 0)) (absF (s.2.getD i 0)) g, fun j hj => ?_⟩
  · rw [← hws]
    exact (downL_perm ltW wz _ _ _ 0 (Nat.le_refl _)).trans hp
  · by_cases ej : j = i
    · subst ej; exact hstep.2
    · simp only [hoth j ej]; exact hsg j hj
  · have : i = 0 ∨ i = 1 ∨ i = 2 ∨ i = 3 := by omega
    rcases this with rfl | rfl | rfl | rfl
    · simp only [hstep.1, hoth 1 (by omega), hoth 2 (by omega), hoth 3 (by omega)]; omega
    · simp only [hstep.1, hoth 0 (by omega), hoth 2 (by omega), hoth 3 (by omega)]; omega
    · simp only [hstep.1, hoth 0 (by omega), hoth 1 (by omega), hoth 3 (by omega)]; omega
    · simp only [hstep.1, hoth 0 (by omega), hoth 1 (by omega), hoth 2 (by omega)]; omega
  · by_cases ej : j = i
    · subst ej
      simp only [hstep.1]
      refine ⟨fall_anti _ _ _ hg, fun _ => ?_⟩
      rw [Int.add_sub_cancel]; exact Int.le_refl _
    · simp only [hoth j ej]
      exact ⟨hm j hj, fun h1 => Int.le_trans (hq i hi).1 ((hq j hj).2 h1)⟩

theorem push4 (c : List Int) (g : Int) : (pushTo c g 4).Perm (wsF c [0, 0, 0, 0] g) ∧ Hp ltW wz (pushTo c g 4) 4 ∧ (pushTo c g 4).length = 4 := by
  have len : ∀ k, (pushTo c g k).length = k := by
    intro k
    induction k with
    | zero => rfl
    | succ k ih => rw [pushTo, pushL_len, ih]
  have hpp : ∀ k, Hp ltW wz (pushTo c g k) k := by
    intro k
    induction k with
    | zero => intro j _ h; omega
    | succ k ih =>
      rw [pushTo]
      have := push_hp ltW_ord wz ((k : Int), absF (c.getD k 0), 0, g) (l := pushTo c g k) (by rw [len]; exact ih)
      rw [len] at this; exact this
  refine ⟨?_, hpp 4, len 4⟩
  have p : ∀ (k : Nat) (l : List W), (pushTo c g k).Perm l → (pushTo c g (k + 1)).Perm (l ++ [((k : Int), absF (c.getD k 0), 0, g)]) := fun k l h => (pushL_perm ltW wz _ _).trans (h.append_right _)
  exact p 3 _ (p 2 _ (p 1 _ (p 0 [] (List.Perm.refl _))))

theorem FI.init (c : List Int) (g : Int) : FI c g 0 (pushTo c g 4, [0, 0, 0, 0]) := by
  obtain ⟨h1, h2, h3⟩ := push4 c g
  have h0 : ∀ i, i < 4 → ([0, 0, 0, 0] : List Int).getD i 0 = 0 := by
    intro i hi
    have : i = 0 ∨ i = 1 ∨ i = 2 ∨ i = 3 := by omega
    rcases this with rfl | rfl | rfl | rfl <;> rfl
  refine ⟨h1, h2, rfl, fun i hi => ?_, rfl, max (max (fallF (absF (c.getD 0 0)) 0 g) (fallF (absF (c.getD 1 0)) 0 g)) (max (fallF (absF (c.getD 2 0)) 0 g) (fallF (absF (c.getD 3 0)) 0 g)), fun i hi => ?_⟩
  · simp only [h0 i hi, sgn]; split <;> omega
  · simp only [h0 i hi]
    have e0 : absF 0 = 0 := by decide
    rw [e0]
    refine ⟨?_, fun h => by omega⟩
    have : i = 0 ∨ i = 1 ∨ i = 2 ∨ i = 3 := by omega
    rcases this with rfl | rfl | rfl | rfl <;> omega

/-- How far pulses are. -/
def farF (c y : List Int) (g : Int) : Int := absF (c.getD 0 0 - y.getD 0 0 * g) + absF (c.getD 1 0 - y.getD 1 0 * g) + absF (c.getD 2 0 - y.getD 2 0 * g) + absF (c.getD 3 0 - y.getD 3 0 * g)

def sumF (y : List Int) : Int := absF (y.getD 0 0) + absF (y.getD 1 0) + absF (y.getD 2 0) + absF (y.getD 3 0)

end Go.SL.S

/- Pulse: plain functions. -/
namespace Go.SL.S
open Go Go.SL
def fewF (y : List Int) : Bool := y.all fun x => decide (-12 ≤ x ∧ x ≤ 12)
def findE (c : List Int) (s k : Int) : Int := if gainF s = 0 ∨ k < 0 ∨ 12 < k then 1 else if heldF c then 0 else 7
def findV (c : List Int) (s k : Int) : List Int := if findE c s k = 0 then findF c (gainF s) k.toNat else [0, 0, 0, 0]
end Go.SL.S

/- Functions and what they are held to do: bound to their code. -/
namespace Go.SL.A
open Go Go.SL Go.SL.S
set_option maxRecDepth 100000
end Go.SL.A

/- Pulse: coefficients, distances, what is found. -/
namespace Go.SL.A
open Go Go.SL Go.SL.S

theorem fewF_at {c : List Int} (h : fewF c = true) (i : Nat) : -12 ≤ c.getD i 0 ∧ c.getD i 0 ≤ 12 := by
  by_cases hi : i < c.length
  · unfold fewF at h
    rw [List.all_eq_true] at h
    simpa using h _ (getD_mem (d := 0) hi)
  · rw [List.getD_eq_getElem?_getD, List.getElem?_eq_none (by omega)]; simp

theorem heldF_at {c : List Int} (h : heldF c = true) (i : Nat) : -1048576 ≤ c.getD i 0 ∧ c.getD i 0 ≤ 1048576 := by
  by_cases hi : i < c.length
  · unfold heldF at h
    rw [List.all_eq_true] at h
    simpa using h _ (getD_mem (d := 0) hi)
  · rw [List.getD_eq_getElem?_getD, List.getElem?_eq_none (by omega)]; simp


theorem FI.ok {c : List Int} {g : Int} {k : Nat} {s : List W × List Int} (h : FI c g k s) (hc : heldF c = true) (hg : 0 ≤ g ∧ g ≤ 32768) (hk : k ≤ 99) : ∀ w ∈ s.1, okW w ∧ w.2.2.1 ≤ k := by
  intro w hw
  have hw := h.perm.subset hw
  have hs := h.sum
  have n0 := absF_le (s.2.getD 0 0)
  have n1 := absF_le (s.2.getD 1 0)
  have n2 := absF_le (s.2.getD 2 0)
  have n3 := absF_le (s.2.getD 3 0)
  have c0 := heldF_at hc 0
  have c1 := heldF_at hc 1
  have c2 := heldF_at hc 2
  have c3 := heldF_at hc 3
  have a0 := absF_le (c.getD 0 0)
  have a1 := absF_le (c.getD 1 0)
  have a2 := absF_le (c.getD 2 0)
  have a3 := absF_le (c.getD 3 0)
  simp only [wsF, List.mem_cons, List.not_mem_nil, or_false] at hw
  unfold okW
  rcases hw with rfl | rfl | rfl | rfl <;> simp only <;> omega

end Go.SL.A

/- Functions do what they are held to do. -/
namespace Go.SL.A
open Go Go.SL Go.SL.S
end Go.SL.A

/- Queues: plain functions. -/
namespace Go.SL.S
open Go Go.SL
def qz : Int × Int := (0, 0)
def ltQ (a b : Int × Int) : Bool := decide (b.2 < a.2) || (decide (a.2 = b.2) && decide (a.1 < b.1))
def popL {α : Type} (lt : α → α → Bool) (d : α) (l : List α) : List α := ((downL lt d (l.length - 1) (l.length - 1) (swapL d l 0 (l.length - 1)) 0).1).take (l.length - 1)
theorem ltQ_ord : Ord ltQ where
  asym := fun a b h => by
    simp only [ltQ, Bool.or_eq_true, Bool.and_eq_true, decide_eq_true_eq, Bool.or_eq_false_iff, Bool.and_eq_false_iff, decide_eq_false_iff_not] at h ⊢
    omega
  tr := fun a b c h1 h2 => by
    simp only [ltQ, Bool.or_eq_false_iff, Bool.and_eq_false_iff, decide_eq_false_iff_not] at h1 h2 ⊢
    omega
end Go.SL.S
namespace Go.SL.A
open Go Go.SL
end Go.SL.A

/- Functions and what they are held to do: bound to their code. -/
namespace Go.SL.A
open Go Go.SL Go.SL.S
set_option maxRecDepth 100000
end Go.SL.A

/- Queues: their methods. -/
namespace Go.SL.A
open Go Go.SL Go.SL.S

end Go.SL.A

/- Functions do what they are held to do. -/
namespace Go.SL.A
open Go Go.SL Go.SL.S
end Go.SL.A

/- Functions and what they are held to do: bound to their code. -/
namespace Go.SL.A
open Go Go.SL Go.SL.S
set_option maxRecDepth 100000
end Go.SL.A

/- Queues: up, down, push, pop. -/
namespace Go.SL.A
open Go Go.SL Go.SL.S

end Go.SL.A

/- Functions do what they are held to do. -/
namespace Go.SL.A
open Go Go.SL Go.SL.S
end Go.SL.A

/- Give: plain functions. -/
namespace Go.SL.S
open Go Go.SL
def badF (x : Int) : Bool := decide (x < 0) || decide (15 < x)
def rightF (s : List Int) : Bool := !s.any badF
def costF : List Int := (List.range 13).map fun k : Nat => bitsF (k : Int)
def sumC : List Int → Int
  | [] => 0
  | x :: l => bitsF x + sumC l
def giveB (size : Int) : Int := if size < 12 ∨ 24 < size then 0 else 8 * size - 64
def z8 : List Int := [0, 0, 0, 0, 0, 0, 0, 0]
/-- What one pulse more costs. -/
def moreF (k : Int) : Int := costF.getD (k + 1).toNat 0 - costF.getD k.toNat 0

abbrev GS : Type := List (Int × Int) × List Int × Int
def pushQ (s : List Int) : Nat → List (Int × Int)
  | 0 => []
  | i + 1 => pushL ltQ qz (pushQ s i) ((i : Int), s.getD i 0)
def noMore (n bits : Int) : Bool := decide (12 ≤ n) || decide (bits < moreF n)
def giveStep (x : GS) : GS :=
  let t := x.1.getD 0 qz
  let n := x.2.1.getD t.1.toNat 0
  if noMore n x.2.2 then (popL ltQ qz x.1, x.2.1, x.2.2) else (pushL ltQ qz (popL ltQ qz x.1) (t.1, t.2 - 1), x.2.1.set t.1.toNat (n + 1), x.2.2 - moreF n)
def sumK : List Int → Int
  | [] => 0
  | x :: l => x + sumK l
def giveMu (x : GS) : Nat := x.1.length + 2 * (96 - sumK x.2.1).toNat
def giveRun : Nat → GS → GS
  | 0, x => x
  | f + 1, x => match x.1 with
    | [] => x
    | _ => giveRun f (giveStep x)
def giveF (s : List Int) (bits : Int) : List Int := (giveRun 200 (pushQ s 8, z8, bits)).2.1
def giveE (s : List Int) (bits : Int) : Int := if rightF s = false ∨ bits < 0 ∨ 1048576 < bits then 1 else 0
def giveV (s : List Int) (bits : Int) : List Int := if giveE s bits = 0 then giveF s bits else z8

end Go.SL.S

/- Functions and what they are held to do: bound to their code. -/
namespace Go.SL.A
open Go Go.SL Go.SL.S
set_option maxRecDepth 100000
end Go.SL.A

/- Give: small functions. -/
namespace Go.SL.A
open Go Go.SL Go.SL.S

end Go.SL.A

/- Functions do what they are held to do. -/
namespace Go.SL.A
open Go Go.SL Go.SL.S
end Go.SL.A

/- Functions and what they are held to do: bound to their code. -/
namespace Go.SL.A
open Go Go.SL Go.SL.S
set_option maxRecDepth 100000
end Go.SL.A

namespace Go.SL.A
open Go Go.SL Go.SL.S

end Go.SL.A

/- More plain laws of vectors. -/
namespace Go.SL.A
open Go Go.SL Go.SL.S

end Go.SL.A

/- Give: what is given; plain laws. -/
namespace Go.SL.S
open Go Go.SL

theorem pop_perm {α : Type} (lt : α → α → Bool) (d : α) {l : List α} (h : 0 < l.length) : (l.getD 0 d :: popL lt d l).Perm l := by
  have hs := swapL_perm d (l := l) (i := 0) (j := l.length - 1) h (by omega)
  have hd := downL_perm lt d (l.length - 1) (l.length - 1) (swapL d l 0 (l.length - 1)) 0 (by rw [swapL_len]; omega)
  have hk := downL_keep lt d (l.length - 1) (l.length - 1) (swapL d l 0 (l.length - 1)) 0 (by rw [swapL_len]; omega) (l.length - 1) (Nat.le_refl _)
  rw [swapL_getD d (by omega) (by omega), if_pos rfl] at hk
  have hl := downL_len lt d (l.length - 1) (l.length - 1) (swapL d l 0 (l.length - 1)) 0
  rw [swapL_len] at hl
  unfold popL
  generalize (downL lt d (l.length - 1) (l.length - 1) (swapL d l 0 (l.length - 1)) 0).1 = D at *
  have e : D = D.take (l.length - 1) ++ [l.getD 0 d] := by
    have : D.drop (l.length - 1) = [l.getD 0 d] := by
      rw [List.drop_eq_getElem_cons (by omega), List.drop_eq_nil_of_le (by omega)]
      rw [← hk, List.getD_eq_getElem?_getD, List.getElem?_eq_getElem (by omega)]; rfl
    rw [← this, List.take_append_drop]
  have p1 : (l.getD 0 d :: D.take (l.length - 1)).Perm (D.take (l.length - 1) ++ [l.getD 0 d]) := (List.perm_append_singleton _ _).symm
  rw [← e] at p1
  exact p1.trans (hd.trans hs)

theorem pop_len {α : Type} (lt : α → α → Bool) (d : α) {l : List α} (h : 0 < l.length) : (popL lt d l).length = l.length - 1 := by
  have := (pop_perm lt d h).length_eq
  simp only [List.length_cons] at this; omega

theorem pop_hp {α : Type} {lt : α → α → Bool} (o : Ord lt) (d : α) {l : List α} (h0 : 0 < l.length) (h : Hp lt d l l.length) : Hp lt d (popL lt d l) (popL lt d l).length := by
  rw [pop_len lt d h0]
  have hs := swapL_getD d (l := l) (i := 0) (j := l.length - 1) h0 (by omega)
  have hd := down_hp o d (n := l.length - 1) (l.length - 1) (swapL d l 0 (l.length - 1)) 0 (by omega) (by rw [swapL_len]; omega) (fun k hk0 hk hkp => by
    rw [hs, hs, if_neg (by omega), if_neg (by omega), if_neg (by omega), if_neg (by omega)]
    exact h k hk0 (by omega)) (fun k hk0 hk hkp hp => by omega)
  intro k hk0 hk
  have hg : ∀ j, j < l.length - 1 → (popL lt d l).getD j d = (downL lt d (l.length - 1) (l.length - 1) (swapL d l 0 (l.length - 1)) 0).1.getD j d := by
    intro j hj
    unfold popL
    rw [List.getD_eq_getElem?_getD, List.getD_eq_getElem?_getD, List.getElem?_take, if_pos hj]
  rw [hg k hk, hg _ (by omega)]
  exact hd k hk0 hk

theorem more_vals : (List.range 12).map (fun k : Nat => moreF (k : Int)) = [3, 2, 2, 1, 1, 1, 0, 1, 0, 1, 0, 1] := by decide +kernel

theorem more_nn {k : Int} (h0 : 0 ≤ k) (h : k < 12) : 0 ≤ moreF k ∧ moreF k ≤ 3 := by
  have e : moreF k = ((List.range 12).map (fun k : Nat => moreF (k : Int))).getD k.toNat 0 := by
    rw [List.getD_eq_getElem?_getD, List.getElem?_map, List.getElem?_range (by omega)]
    simp [Int.toNat_of_nonneg h0]
  rw [more_vals] at e
  have : k.toNat = 0 ∨ k.toNat = 1 ∨ k.toNat = 2 ∨ k.toNat = 3 ∨ k.toNat = 4 ∨ k.toNat = 5 ∨ k.toNat = 6 ∨ k.toNat = 7 ∨ k.toNat = 8 ∨ k.toNat = 9 ∨ k.toNat = 10 ∨ k.toNat = 11 := by omega
  rw [e]
  rcases this with h | h | h | h | h | h | h | h | h | h | h | h <;> rw [h] <;> decide

theorem more_bits {k : Int} (h0 : 0 ≤ k) (h : k < 12) : moreF k = bitsF (k + 1) - bitsF k := by
  unfold moreF costF
  simp only [List.getD_eq_getElem?_getD, List.getElem?_map]
  rw [List.getElem?_range (by omega), List.getElem?_range (by omega)]
  simp only [Option.map_some, Option.getD_some]
  rw [Int.toNat_of_nonneg (by omega), Int.toNat_of_nonneg h0]

theorem sumC_set : ∀ (l : List Int) (b : Nat) (v : Int), b < l.length → sumC (l.set b v) = sumC l + bitsF v - bitsF (l.getD b 0)
  | [], b, v, h => by simp at h
  | x :: l, 0, v, _ => by simp [sumC]; omega
  | x :: l, b + 1, v, h => by
    simp only [List.set_cons_succ, sumC, List.getD_cons_succ]
    rw [sumC_set l b v (by simpa using h)]; omega

theorem sumK_set : ∀ (l : List Int) (b : Nat) (v : Int), b < l.length → sumK (l.set b v) = sumK l + v - l.getD b 0
  | [], b, v, h => by simp at h
  | x :: l, 0, v, _ => by simp [sumK]; omega
  | x :: l, b + 1, v, h => by
    simp only [List.set_cons_succ, sumK, List.getD_cons_succ]
    rw [sumK_set l b v (by simpa using h)]; omega

theorem sumK_le : ∀ (l : List Int), (∀ b, b < l.length → l.getD b 0 ≤ 12) → sumK l ≤ 12 * l.length
  | [], _ => by simp [sumK]
  | x :: l, h => by
    have h1 := h 0 (by simp)
    have h2 := sumK_le l (fun b hb => by have := h (b + 1) (by simpa using hb); simpa using this)
    simp only [List.getD_cons_zero] at h1
    simp only [sumK, List.length_cons]; omega

theorem set_at (l : List Int) (b c : Nat) (v : Int) (h : b < l.length) : (l.set b v).getD c 0 = if c = b then v else l.getD c 0 := by
  simp only [List.getD_eq_getElem?_getD, List.getElem?_set]
  by_cases e : b = c
  · subst e; simp [h]
  · rw [if_neg e, if_neg (fun h => e h.symm)]

theorem sumC_z8 : sumC z8 = 0 := by decide +kernel

structure GI (s : List Int) (B : Int) (x : GS) : Prop where
  klen : x.2.1.length = 8
  kr : ∀ b, b < 8 → 0 ≤ x.2.1.getD b 0 ∧ x.2.1.getD b 0 ≤ 12
  b0 : 0 ≤ x.2.2
  sum : x.2.2 + sumC x.2.1 = B
  mem : ∀ w ∈ x.1, ∃ b : Nat, b < 8 ∧ w = ((b : Int), s.getD b 0 - x.2.1.getD b 0)
  nd : (x.1.map (·.1)).Nodup
  hp : Hp ltQ qz x.1 x.1.length
  len : x.1.length ≤ 8
  out : ∀ b : Nat, b < 8 → (∀ w ∈ x.1, w.1 ≠ (b : Int)) → noMore (x.2.1.getD b 0) x.2.2 = true

theorem GI.top {s : List Int} {B : Int} {x : GS} (h : GI s B x) (h0 : 0 < x.1.length) : ∃ b : Nat, b < 8 ∧ x.1.getD 0 qz = ((b : Int), s.getD b 0 - x.2.1.getD b 0) ∧
    (∀ w ∈ x.1, ltQ w (x.1.getD 0 qz) = false) ∧ (∀ w ∈ popL ltQ qz x.1, w ∈ x.1 ∧ w.1 ≠ (b : Int)) ∧ (∀ w ∈ x.1, w.1 ≠ (b : Int) → w ∈ popL ltQ qz x.1) ∧ ((popL ltQ qz x.1).map (·.1)).Nodup := by
  obtain ⟨b, hb, e⟩ := h.mem _ (show x.1.getD 0 qz ∈ x.1 by rw [List.getD_eq_getElem?_getD, List.getElem?_eq_getElem h0]; simp)
  have hp := pop_perm ltQ qz h0
  have hnd : ((x.1.getD 0 qz :: popL ltQ qz x.1).map (·.1)).Nodup := (hp.map _).nodup_iff.2 h.nd
  rw [List.map_cons, List.nodup_cons] at hnd
  refine ⟨b, hb, e, fun w hw => ?_, fun w hw => ⟨hp.subset (List.mem_cons_of_mem _ hw), fun hwb => ?_⟩, fun w hw hwb => ?_, hnd.2⟩
  · obtain ⟨k, hk, rfl⟩ := List.mem_iff_getElem.1 hw
    have := h.hp.first ltQ_ord k hk
    rw [List.getD_eq_getElem?_getD, List.getElem?_eq_getElem hk] at this
    exact this
  · apply hnd.1
    rw [e]
    exact List.mem_map.2 ⟨w, hw, hwb⟩
  · have hw := hp.symm.subset hw
    rcases List.mem_cons.1 hw with hw | hw
    · exfalso; apply hwb; rw [hw, e]
    · exact hw

theorem noMore_less {n a b : Int} (h : noMore n a = true) (hab : b ≤ a) : noMore n b = true := by
  unfold noMore at *
  simp only [Bool.or_eq_true, decide_eq_true_eq] at *
  omega

theorem GI.step {s : List Int} {B : Int} {x : GS} (h : GI s B x) (h0 : 0 < x.1.length) : GI s B (giveStep x) ∧ giveMu (giveStep x) < giveMu x := by
  obtain ⟨b, hb, e, hmin, hpop, hin, hnd⟩ := h.top h0
  have hpl := pop_len ltQ qz h0
  have hkr := h.kr b hb
  have hbl : b < x.2.1.length := by rw [h.klen]; exact hb
  have hsl := sumK_le x.2.1 (fun c hc => (h.kr c (by rw [← h.klen]; exact hc)).2)
  rw [h.klen] at hsl
  unfold giveStep giveMu
  simp only [e, Int.toNat_natCast]
  cases hn : noMore (x.2.1.getD b 0) x.2.2 with
  | true =>
    rw [if_pos rfl]
    refine ⟨⟨h.klen, h.kr, h.b0, h.sum, fun w hw => h.mem w (hpop w hw).1, hnd, pop_hp ltQ_ord qz h0 h.hp, by simp only [hpl]; have := h.len; omega, fun c hc hcw => ?_⟩, by simp only [hpl]; omega⟩
    by_cases ecb : c = b
    · subst ecb; exact hn
    · refine h.out c hc fun w hw hwc => ?_
      exact hcw w (hin w hw (by rw [hwc]; omega)) hwc
  | false =>
    rw [if_neg (by simp)]
    have hn' : x.2.1.getD b 0 < 12 ∧ moreF (x.2.1.getD b 0) ≤ x.2.2 := by
      unfold noMore at hn
      simp only [Bool.or_eq_false_iff, decide_eq_false_iff_not] at hn
      omega
    have hm := more_nn hkr.1 hn'.1
    have hmb := more_bits hkr.1 hn'.1
    have hset := set_at x.2.1 b
    have hpu := pushL_perm ltQ qz (popL ltQ qz x.1) ((b : Int), s.getD b 0 - x.2.1.getD b 0 - 1)
    refine ⟨⟨by simp only [List.length_set]; exact h.klen, fun c hc => ?_, by simp only; omega, ?_, fun w hw => ?_, ?_, ?_, by simp only [pushL_len, hpl]; have := h.len; omega, fun c hc hcw => ?_⟩, ?_⟩
    · simp only [hset c _ hbl]
      split
      · omega
      · exact h.kr c hc
    · simp only [sumC_set _ _ _ hbl]
      have := h.sum; omega
    · rcases List.mem_append.1 (hpu.subset hw) with hw | hw
      · obtain ⟨hw1, hw2⟩ := hpop w hw
        obtain ⟨c, hc, rfl⟩ := h.mem w hw1
        refine ⟨c, hc, ?_⟩
        have : c ≠ b := fun e => hw2 (by rw [e])
        simp only [hset c _ hbl, if_neg this]
      · rw [List.mem_singleton.1 hw]
        refine ⟨b, hb, ?_⟩
        simp only [hset b _ hbl, if_true]
        congr 1; omega
    · refine (hpu.map _).nodup_iff.2 ?_
      rw [List.map_append, List.nodup_append]
      refine ⟨hnd, by simp, fun c hc d hd => ?_⟩
      obtain ⟨w, hw, rfl⟩ := List.mem_map.1 hc
      simp only [List.map_cons, List.map_nil, List.mem_singleton] at hd
      rw [hd]; exact (hpop w hw).2
    · have := push_hp ltQ_ord qz ((b : Int), s.getD b 0 - x.2.1.getD b 0 - 1) (pop_hp ltQ_ord qz h0 h.hp)
      simp only [pushL_len]; exact this
    · have ecb : c ≠ b := fun e => hcw _ (hpu.symm.subset (List.mem_append_right _ (List.mem_singleton_self _))) (by rw [e])
      simp only [hset c _ hbl, if_neg ecb]
      refine noMore_less (h.out c hc fun w hw hwc => ?_) (show x.2.2 - moreF (x.2.1.getD b 0) ≤ x.2.2 by omega)
      exact hcw w (hpu.symm.subset (List.mem_append_left _ (hin w hw (by rw [hwc]; omega)))) hwc
    · simp only [pushL_len, hpl, sumK_set _ _ _ hbl]
      have e9 : sumK x.2.1 + (x.2.1.getD b 0 + 1) - x.2.1.getD b 0 = sumK x.2.1 + 1 := by omega
      rw [e9]
      have key : ∀ (m : Nat) (q : Int), 0 < m → q + 1 ≤ 96 → m - 1 + 1 + 2 * (96 - (q + 1)).toNat < m + 2 * (96 - q).toNat := by intro m q h1 h2; omega
      refine key _ _ h0 ?_
      have hs2 := sumK_le (x.2.1.set b (x.2.1.getD b 0 + 1)) (fun c hc => by
        rw [hset c _ hbl]
        split
        · omega
        · exact (h.kr c (by rw [List.length_set, h.klen] at hc; exact hc)).2)
      rw [List.length_set, h.klen, sumK_set _ _ _ hbl] at hs2
      omega

theorem pushQ_len (s : List Int) : ∀ k, (pushQ s k).length = k
  | 0 => rfl
  | k + 1 => by rw [pushQ, pushL_len, pushQ_len s k]

theorem pushQ_mem (s : List Int) : ∀ k w, w ∈ pushQ s k ↔ ∃ b : Nat, b < k ∧ w = ((b : Int), s.getD b 0)
  | 0, w => by simp [pushQ]
  | k + 1, w => by
    rw [pushQ, (pushL_perm ltQ qz _ _).mem_iff, List.mem_append, pushQ_mem s k w, List.mem_singleton]
    constructor
    · rintro (⟨b, hb, e⟩ | e)
      · exact ⟨b, by omega, e⟩
      · exact ⟨k, by omega, e⟩
    · rintro ⟨b, hb, e⟩
      by_cases h : b = k
      · subst h; exact .inr e
      · exact .inl ⟨b, by omega, e⟩

theorem pushQ_nd (s : List Int) : ∀ k, ((pushQ s k).map (·.1)).Nodup
  | 0 => by simp [pushQ]
  | k + 1 => by
    rw [pushQ]
    refine ((pushL_perm ltQ qz _ _).map _).nodup_iff.2 ?_
    rw [List.map_append, List.nodup_append]
    refine ⟨pushQ_nd s k, by simp, fun c hc d hd => ?_⟩
    obtain ⟨w, hw, rfl⟩ := List.mem_map.1 hc
    obtain ⟨b, hb, rfl⟩ := (pushQ_mem s k w).1 hw
    simp only [List.map_cons, List.map_nil, List.mem_singleton] at hd
    rw [hd]; simp only; omega

theorem pushQ_hp (s : List Int) : ∀ k, Hp ltQ qz (pushQ s k) k
  | 0 => fun j _ h => by omega
  | k + 1 => by
    have := push_hp ltQ_ord qz ((k : Int), s.getD k 0) (l := pushQ s k) (by rw [pushQ_len]; exact pushQ_hp s k)
    rw [pushQ_len] at this
    exact this

theorem z8_at (b : Nat) : z8.getD b 0 = 0 := by
  match b with
  | 0 | 1 | 2 | 3 | 4 | 5 | 6 | 7 => rfl
  | b + 8 => rw [List.getD_eq_getElem?_getD, List.getElem?_eq_none (by simp [z8])]; rfl

theorem GI.init (s : List Int) {B : Int} (hB : 0 ≤ B) : GI s B (pushQ s 8, z8, B) where
  klen := rfl
  kr := fun b _ => by simp only [z8_at]; omega
  b0 := hB
  sum := by simp only [sumC_z8]; omega
  mem := fun w hw => by
    obtain ⟨b, hb, e⟩ := (pushQ_mem s 8 w).1 hw
    exact ⟨b, hb, by rw [e]; simp only [z8_at]; congr 1; omega⟩
  nd := pushQ_nd s 8
  hp := by simp only [pushQ_len]; exact pushQ_hp s 8
  len := by simp only [pushQ_len]; omega
  out := fun b hb h => absurd rfl (h _ ((pushQ_mem s 8 _).2 ⟨b, hb, rfl⟩))

/-! ### As the document has it -/

structure RI (B : Int) (x : List Int × Int) : Prop where
  klen : x.1.length = 8
  kr : ∀ b, b < 8 → 0 ≤ x.1.getD b 0 ∧ x.1.getD b 0 ≤ 12
  b0 : 0 ≤ x.2
  b1 : x.2 ≤ B

end Go.SL.S

/- Functions and what they are held to do: bound to their code. -/
namespace Go.SL.A
open Go Go.SL Go.SL.S
set_option maxRecDepth 100000
end Go.SL.A

/- The document's vectors of four are those of the code, in order. -/
namespace Go.SL.A
open Go Go.SL Go.SL.S

/-- All vectors of n numbers with K pulses, in order. -/
def allV : Nat → Nat → List (List Int)
  | 0, K => if K = 0 then [[]] else []
  | n + 1, K => (numsF K).flatMap fun z => (allV n (K - (sz13 z).toNat)).map (z :: ·)

theorem nums_sz {K : Nat} (hK : K ≤ 12) {z : Int} (h : z ∈ numsF K) : szR z = sz13 z ∧ 0 ≤ sz13 z ∧ sz13 z ≤ K := by
  have h1 := szR_nums hK h
  have h2 := mem_numsF.1 h
  have h3 := sz13_small (z := z) (by omega) (by omega)
  rw [h3]; omega

theorem flat_nil {α β : Type} {f : α → List β} : ∀ {l : List α}, (∀ x ∈ l, f x = []) → l.flatMap f = []
  | [], _ => rfl
  | x :: l, h => by rw [List.flatMap_cons, h x (by simp), flat_nil fun y hy => h y (by simp [hy])]; rfl

theorem allV_one : ∀ L : Nat, L ≤ 12 → allV 1 L = if 0 < L then [[(L : Int)], [-(L : Int)]] else [[(L : Int)]]
  | 0, _ => by decide
  | L + 1, h => by
    rw [allV, numsF, List.flatMap_append, flat_nil (l := numsF L), if_pos (by omega)]
    · have e1 : sz13 ((L + 1 : Nat) : Int) = ((L + 1 : Nat) : Int) := by rw [sz13_small (by omega) (by omega)]; omega
      have e2 : sz13 (-((L + 1 : Nat) : Int)) = ((L + 1 : Nat) : Int) := by rw [sz13_small (by omega) (by omega)]; omega
      simp only [List.flatMap_cons, List.flatMap_nil, e1, e2, Int.toNat_natCast, Nat.sub_self, allV, if_true, List.map_cons, List.map_nil, List.append_nil, List.nil_append, List.singleton_append]
    · intro z hz
      obtain ⟨z1, z2, z3⟩ := nums_sz (by omega) hz
      rw [allV, if_neg (by omega)]; rfl

end Go.SL.A
