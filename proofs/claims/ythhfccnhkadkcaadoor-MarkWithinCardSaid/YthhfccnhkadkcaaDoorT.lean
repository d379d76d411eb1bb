/- The type tables of this translation, its one table that never turns, and closed facts of it. -/
import Derived.Test.YthhfccnhkadkcaaDoorProg
import Derived.Test.YthhfccnhkadkcaaDoorRows
import Derived.JoinedOf
import Derived.KernelRfl
import Derived.ProofKit
import Derived.ChangeArms
import Derived.Handed
import Derived.LaidLaws
import Derived.LaidHandle
import Derived.Test.YthhfccnhkadkcaaDoorKa
import Derived.Test.YthhfccnhkadkcaaDoorKb

/- The seat's type tables, for the S-logic; and the one table that never turns. -/
namespace Go.SL.S
def sgL : List Int := [8317987319222330741, 7237128888997146477, 7816392313619706465, 8387220255154660723]
end Go.SL.S
namespace Go.SL.A
open Go Go.SL
instance gtab : GTab := ⟨fun g => bif Nat.beq g 0 then some ⟨.arr 4 (.int .u64), S.sgL⟩ else none⟩

def tyT (t : TypeId) : Option Ty := match Nat.blt t 186 with
  | true => (match Nat.blt t 93 with | true => (match Nat.blt t 46 with | true => (match Nat.blt t 23 with | true => (match Nat.blt t 11 with | true => (match Nat.blt t 5 with | true => (match Nat.blt t 2 with | true => (match Nat.blt t 1 with | true => none | false => some (.ref .func)) | false => (match Nat.blt t 3 with | true => some (.int .i64) | false => (match Nat.blt t 4 with | true => some (.int .i64) | false => some .bool))) | false => (match Nat.blt t 8 with | true => (match Nat.blt t 6 with | true => some (.int .u8) | false => (match Nat.blt t 7 with | true => some (.int .u8) | false => some (.cons (.int .i64) (.cons (.int .i64) (.cons .bool (.last (.int .u8))))))) | false => (match Nat.blt t 9 with | true => some (.cons (.int .i64) (.cons (.int .i64) (.cons .bool (.last (.int .u8))))) | false => (match Nat.blt t 10 with | true => some .str | false => some .str)))) | false => (match Nat.blt t 17 with | true => (match Nat.blt t 14 with | true => (match Nat.blt t 12 with | true => some .str | false => (match Nat.blt t 13 with | true => some (.int .u64) | false => some (.cons .str (.last (.int .u64))))) | false => (match Nat.blt t 15 with | true => some (.cons .str (.last (.int .u64))) | false => (match Nat.blt t 16 with | true => some (.ref .ptr) | false => some (.ref .ptr)))) | false => (match Nat.blt t 20 with | true => (match Nat.blt t 18 with | true => some (.ref .ptr) | false => (match Nat.blt t 19 with | true => some (.last (.ref .ptr)) | false => some (.last (.ref .ptr)))) | false => (match Nat.blt t 21 with | true => some (.ref .iface) | false => (match Nat.blt t 22 with | true => some (.int .i32) | false => some (.arr 16 (.int .u8))))))) | false => (match Nat.blt t 34 with | true => (match Nat.blt t 28 with | true => (match Nat.blt t 25 with | true => (match Nat.blt t 24 with | true => some (.arr 16 (.int .u8)) | false => some (.arr 8 (.int .i64))) | false => (match Nat.blt t 26 with | true => some (.arr 8 (.int .i64)) | false => (match Nat.blt t 27 with | true => some (.arr 4 (.int .i64)) | false => some (.arr 4 (.int .i64))))) | false => (match Nat.blt t 31 with | true => (match Nat.blt t 29 with | true => some (.arr 8 (.arr 4 (.int .i64))) | false => (match Nat.blt t 30 with | true => some (.cons (.arr 8 (.int .i64)) (.last (.arr 8 (.arr 4 (.int .i64))))) | false => some (.cons (.arr 8 (.int .i64)) (.last (.arr 8 (.arr 4 (.int .i64))))))) | false => (match Nat.blt t 32 with | true => some (.ref .func) | false => (match Nat.blt t 33 with | true => none | false => some (.ref .func))))) | false => (match Nat.blt t 40 with | true => (match Nat.blt t 37 with | true => (match Nat.blt t 35 with | true => some (.ref .func) | false => (match Nat.blt t 36 with | true => some (.ref .func) | false => some (.ref .func))) | false => (match Nat.blt t 38 with | true => some (.ref .func) | false => (match Nat.blt t 39 with | true => some (.ref .func) | false => some (.ref .func)))) | false => (match Nat.blt t 43 with | true => (match Nat.blt t 41 with | true => some (.ref .func) | false => (match Nat.blt t 42 with | true => some (.ref .func) | false => some (.int .u32))) | false => (match Nat.blt t 44 with | true => some (.arr 8 (.int .u32)) | false => (match Nat.blt t 45 with | true => some (.ref .func) | false => some (.ref .func))))))) | false => (match Nat.blt t 69 with | true => (match Nat.blt t 57 with | true => (match Nat.blt t 51 with | true => (match Nat.blt t 48 with | true => (match Nat.blt t 47 with | true => some (.ref .func) | false => some (.ref .slice)) | false => (match Nat.blt t 49 with | true => some (.ref .func) | false => (match Nat.blt t 50 with | true => some (.int .i64) | false => none))) | false => (match Nat.blt t 54 with | true => (match Nat.blt t 52 with | true => some (.ref .func) | false => (match Nat.blt t 53 with | true => some (.ref .func) | false => some (.ref .func))) | false => (match Nat.blt t 55 with | true => some (.ref .func) | false => (match Nat.blt t 56 with | true => some (.ref .slice) | false => some (.arr 127 .bool))))) | false => (match Nat.blt t 63 with | true => (match Nat.blt t 60 with | true => (match Nat.blt t 58 with | true => some (.ref .func) | false => (match Nat.blt t 59 with | true => some (.ref .func) | false => some (.ref .func))) | false => (match Nat.blt t 61 with | true => some (.arr 127 (.int .i64)) | false => (match Nat.blt t 62 with | true => none | false => some (.ref .func)))) | false => (match Nat.blt t 66 with | true => (match Nat.blt t 64 with | true => some (.ref .func) | false => (match Nat.blt t 65 with | true => some (.ref .func) | false => some (.int .u64))) | false => (match Nat.blt t 67 with | true => some (.ref .func) | false => (match Nat.blt t 68 with | true => some (.ref .func) | false => some (.arr 127 .bool)))))) | false => (match Nat.blt t 81 with | true => (match Nat.blt t 75 with | true => (match Nat.blt t 72 with | true => (match Nat.blt t 70 with | true => none | false => (match Nat.blt t 71 with | true => some (.ref .func) | false => some (.ref .func))) | false => (match Nat.blt t 73 with | true => some (.ref .func) | false => (match Nat.blt t 74 with | true => none | false => some (.ref .func)))) | false => (match Nat.blt t 78 with | true => (match Nat.blt t 76 with | true => some (.ref .func) | false => (match Nat.blt t 77 with | true => some (.ref .func) | false => some (.ref .func))) | false => (match Nat.blt t 79 with | true => some (.ref .func) | false => (match Nat.blt t 80 with | true => some (.ref .func) | false => some (.ref .ptr))))) | false => (match Nat.blt t 87 with | true => (match Nat.blt t 84 with | true => (match Nat.blt t 82 with | true => some (.ref .func) | false => (match Nat.blt t 83 with | true => some (.cons (.arr 4 (.int .i64)) (.cons (.arr 4 (.int .i64)) (.cons (.int .i64) (.cons (.arr 4 (.int .i64)) (.last (.int .i64)))))) | false => some (.cons (.arr 4 (.int .i64)) (.cons (.arr 4 (.int .i64)) (.cons (.int .i64) (.cons (.arr 4 (.int .i64)) (.last (.int .i64)))))))) | false => (match Nat.blt t 85 with | true => some (.ref .func) | false => (match Nat.blt t 86 with | true => some (.ref .func) | false => some (.ref .func)))) | false => (match Nat.blt t 90 with | true => (match Nat.blt t 88 with | true => some (.ref .func) | false => (match Nat.blt t 89 with | true => some (.ref .func) | false => some (.ref .func))) | false => (match Nat.blt t 91 with | true => some (.ref .func) | false => (match Nat.blt t 92 with | true => some (.ref .slice) | false => some (.ref .func)))))))) | false => (match Nat.blt t 139 with | true => (match Nat.blt t 116 with | true => (match Nat.blt t 104 with | true => (match Nat.blt t 98 with | true => (match Nat.blt t 95 with | true => (match Nat.blt t 94 with | true => some (.ref .func) | false => some (.ref .func)) | false => (match Nat.blt t 96 with | true => some (.ref .func) | false => (match Nat.blt t 97 with | true => some (.arr 13 (.int .i64)) | false => some (.ref .ptr)))) | false => (match Nat.blt t 101 with | true => (match Nat.blt t 99 with | true => some (.ref .func) | false => (match Nat.blt t 100 with | true => some (.ref .func) | false => some (.ref .func))) | false => (match Nat.blt t 102 with | true => some (.ref .func) | false => (match Nat.blt t 103 with | true => some (.ref .func) | false => none)))) | false => (match Nat.blt t 110 with | true => (match Nat.blt t 107 with | true => (match Nat.blt t 105 with | true => some (.ref .func) | false => (match Nat.blt t 106 with | true => some (.int .u64) | false => some (.ref .func))) | false => (match Nat.blt t 108 with | true => some (.ref .func) | false => (match Nat.blt t 109 with | true => some (.ref .func) | false => some (.ref .func)))) | false => (match Nat.blt t 113 with | true => (match Nat.blt t 111 with | true => none | false => (match Nat.blt t 112 with | true => some (.ref .func) | false => some (.ref .func))) | false => (match Nat.blt t 114 with | true => some (.ref .func) | false => (match Nat.blt t 115 with | true => some (.arr 9 (.arr 13 (.int .i64))) | false => some (.arr 9 (.arr 13 (.int .i64)))))))) | false => (match Nat.blt t 127 with | true => (match Nat.blt t 121 with | true => (match Nat.blt t 118 with | true => (match Nat.blt t 117 with | true => some (.ref .func) | false => some (.ref .slice)) | false => (match Nat.blt t 119 with | true => some (.ref .func) | false => (match Nat.blt t 120 with | true => none | false => some (.ref .func)))) | false => (match Nat.blt t 124 with | true => (match Nat.blt t 122 with | true => some (.ref .func) | false => (match Nat.blt t 123 with | true => some (.ref .func) | false => some (.ref .func))) | false => (match Nat.blt t 125 with | true => some (.arr 4 (.int .u64)) | false => (match Nat.blt t 126 with | true => some (.ref .slice) | false => some (.ref .func))))) | false => (match Nat.blt t 133 with | true => (match Nat.blt t 130 with | true => (match Nat.blt t 128 with | true => some (.ref .func) | false => (match Nat.blt t 129 with | true => some (.ref .func) | false => some (.arr 4 (.int .u64)))) | false => (match Nat.blt t 131 with | true => some (.ref .func) | false => (match Nat.blt t 132 with | true => some (.arr 128 .bool) | false => some (.ref .func)))) | false => (match Nat.blt t 136 with | true => (match Nat.blt t 134 with | true => some (.ref .func) | false => (match Nat.blt t 135 with | true => some (.ref .func) | false => some (.ref .ptr))) | false => (match Nat.blt t 137 with | true => some (.ref .func) | false => (match Nat.blt t 138 with | true => some (.ref .slice) | false => some (.cons (.ref .slice) (.last (.ref .func))))))))) | false => (match Nat.blt t 162 with | true => (match Nat.blt t 150 with | true => (match Nat.blt t 144 with | true => (match Nat.blt t 141 with | true => (match Nat.blt t 140 with | true => some (.cons (.ref .slice) (.last (.ref .func))) | false => some (.ref .func)) | false => (match Nat.blt t 142 with | true => some (.cons (.int .i64) (.last (.int .i64))) | false => (match Nat.blt t 143 with | true => some (.cons (.int .i64) (.last (.int .i64))) | false => some (.ref .func)))) | false => (match Nat.blt t 147 with | true => (match Nat.blt t 145 with | true => some (.ref .func) | false => (match Nat.blt t 146 with | true => some (.ref .func) | false => some (.ref .ptr))) | false => (match Nat.blt t 148 with | true => some (.ref .func) | false => (match Nat.blt t 149 with | true => some (.ref .func) | false => some (.ref .ptr))))) | false => (match Nat.blt t 156 with | true => (match Nat.blt t 153 with | true => (match Nat.blt t 151 with | true => some (.cons (.ref .ptr) (.cons (.ref .slice) (.cons (.ref .slice) (.cons (.ref .slice) (.cons (.int .i64) (.cons (.int .i64) (.last (.int .i64)))))))) | false => (match Nat.blt t 152 with | true => some (.cons (.ref .ptr) (.cons (.ref .slice) (.cons (.ref .slice) (.cons (.ref .slice) (.cons (.int .i64) (.cons (.int .i64) (.last (.int .i64)))))))) | false => some (.ref .func))) | false => (match Nat.blt t 154 with | true => some (.ref .func) | false => (match Nat.blt t 155 with | true => some (.ref .func) | false => some (.ref .func)))) | false => (match Nat.blt t 159 with | true => (match Nat.blt t 157 with | true => some (.ref .func) | false => (match Nat.blt t 158 with | true => some (.ref .func) | false => some (.ref .func))) | false => (match Nat.blt t 160 with | true => some (.ref .ptr) | false => (match Nat.blt t 161 with | true => some (.ref .func) | false => some (.ref .iface)))))) | false => (match Nat.blt t 174 with | true => (match Nat.blt t 168 with | true => (match Nat.blt t 165 with | true => (match Nat.blt t 163 with | true => some (.ref .iface) | false => (match Nat.blt t 164 with | true => some (.ref .func) | false => some (.ref .func))) | false => (match Nat.blt t 166 with | true => some (.ref .func) | false => (match Nat.blt t 167 with | true => some (.ref .func) | false => some (.arr 128 (.int .i64))))) | false => (match Nat.blt t 171 with | true => (match Nat.blt t 169 with | true => some (.cons (.arr 127 (.int .i64)) (.last (.arr 128 (.int .i64)))) | false => (match Nat.blt t 170 with | true => some (.cons (.arr 127 (.int .i64)) (.last (.arr 128 (.int .i64)))) | false => some (.ref .func))) | false => (match Nat.blt t 172 with | true => some (.ref .func) | false => (match Nat.blt t 173 with | true => some (.cons (.ref .ptr) (.cons (.ref .ptr) (.cons (.ref .ptr) (.last .str)))) | false => some (.cons (.ref .ptr) (.cons (.ref .ptr) (.cons (.ref .ptr) (.last .str)))))))) | false => (match Nat.blt t 180 with | true => (match Nat.blt t 177 with | true => (match Nat.blt t 175 with | true => some (.arr 0 (.ref .ptr)) | false => (match Nat.blt t 176 with | true => some (.last (.arr 0 (.ref .ptr))) | false => some (.last (.arr 0 (.ref .ptr))))) | false => (match Nat.blt t 178 with | true => some (.int .u8) | false => (match Nat.blt t 179 with | true => some (.int .u8) | false => some (.ref .func)))) | false => (match Nat.blt t 183 with | true => (match Nat.blt t 181 with | true => some (.ref .ptr) | false => (match Nat.blt t 182 with | true => some (.int .i32) | false => some (.int .i32))) | false => (match Nat.blt t 184 with | true => some (.cons (.int .u64) (.cons (.int .u64) (.cons (.int .u32) (.cons (.int .u8) (.cons (.int .u8) (.cons (.int .u8) (.cons (.int .u8) (.cons (.ref .func) (.cons (.ref .ptr) (.cons (.int .i32) (.last (.int .i32)))))))))))) | false => (match Nat.blt t 185 with | true => some (.cons (.int .u64) (.cons (.int .u64) (.cons (.int .u32) (.cons (.int .u8) (.cons (.int .u8) (.cons (.int .u8) (.cons (.int .u8) (.cons (.ref .func) (.cons (.ref .ptr) (.cons (.int .i32) (.last (.int .i32)))))))))))) | false => none))))))))
  | false => none

def slT (t : TypeId) : Option TypeId := match Nat.blt t 186 with
  | true => (match Nat.blt t 93 with | true => (match Nat.blt t 46 with | true => none | false => (match Nat.blt t 69 with | true => (match Nat.blt t 57 with | true => (match Nat.blt t 51 with | true => (match Nat.blt t 48 with | true => (match Nat.blt t 47 with | true => none | false => some 3) | false => none) | false => (match Nat.blt t 54 with | true => none | false => (match Nat.blt t 55 with | true => none | false => (match Nat.blt t 56 with | true => some 5 | false => none)))) | false => none) | false => (match Nat.blt t 81 with | true => none | false => (match Nat.blt t 87 with | true => none | false => (match Nat.blt t 90 with | true => none | false => (match Nat.blt t 91 with | true => none | false => (match Nat.blt t 92 with | true => some 26 | false => none))))))) | false => (match Nat.blt t 139 with | true => (match Nat.blt t 116 with | true => none | false => (match Nat.blt t 127 with | true => (match Nat.blt t 121 with | true => (match Nat.blt t 118 with | true => (match Nat.blt t 117 with | true => none | false => some 4) | false => none) | false => (match Nat.blt t 124 with | true => none | false => (match Nat.blt t 125 with | true => none | false => (match Nat.blt t 126 with | true => some 65 | false => none)))) | false => (match Nat.blt t 133 with | true => none | false => (match Nat.blt t 136 with | true => none | false => (match Nat.blt t 137 with | true => none | false => (match Nat.blt t 138 with | true => some 142 | false => none)))))) | false => none))
  | false => none

def byT (t : TypeId) : Nat := match Nat.blt t 186 with
  | true => (match Nat.blt t 93 with | true => (match Nat.blt t 46 with | true => (match Nat.blt t 23 with | true => (match Nat.blt t 11 with | true => (match Nat.blt t 5 with | true => (match Nat.blt t 2 with | true => 0 | false => (match Nat.blt t 3 with | true => 0 | false => (match Nat.blt t 4 with | true => 8 | false => 1))) | false => (match Nat.blt t 8 with | true => (match Nat.blt t 6 with | true => 1 | false => 0) | false => 0)) | false => 0) | false => (match Nat.blt t 34 with | true => (match Nat.blt t 28 with | true => (match Nat.blt t 25 with | true => 0 | false => (match Nat.blt t 26 with | true => 0 | false => (match Nat.blt t 27 with | true => 32 | false => 0))) | false => 0) | false => 0)) | false => (match Nat.blt t 69 with | true => (match Nat.blt t 57 with | true => 0 | false => (match Nat.blt t 63 with | true => 0 | false => (match Nat.blt t 66 with | true => (match Nat.blt t 64 with | true => 0 | false => (match Nat.blt t 65 with | true => 0 | false => 8)) | false => 0))) | false => 0)) | false => (match Nat.blt t 139 with | true => 0 | false => (match Nat.blt t 162 with | true => (match Nat.blt t 150 with | true => (match Nat.blt t 144 with | true => (match Nat.blt t 141 with | true => 0 | false => (match Nat.blt t 142 with | true => 0 | false => (match Nat.blt t 143 with | true => 16 | false => 0))) | false => 0) | false => 0) | false => 0)))
  | false => 0

def eqT0 (t : TypeId) : Bool := match Nat.blt t 186 with
  | true => (match Nat.blt t 93 with | true => (match Nat.blt t 46 with | true => (match Nat.blt t 23 with | true => (match Nat.blt t 11 with | true => (match Nat.blt t 5 with | true => false | false => (match Nat.blt t 8 with | true => (match Nat.blt t 6 with | true => false | false => (match Nat.blt t 7 with | true => false | false => true)) | false => (match Nat.blt t 9 with | true => true | false => false))) | false => (match Nat.blt t 17 with | true => false | false => (match Nat.blt t 20 with | true => false | false => (match Nat.blt t 21 with | true => false | false => (match Nat.blt t 22 with | true => false | false => true))))) | false => (match Nat.blt t 34 with | true => (match Nat.blt t 28 with | true => (match Nat.blt t 25 with | true => (match Nat.blt t 24 with | true => true | false => true) | false => (match Nat.blt t 26 with | true => true | false => (match Nat.blt t 27 with | true => true | false => true))) | false => (match Nat.blt t 31 with | true => (match Nat.blt t 29 with | true => true | false => (match Nat.blt t 30 with | true => true | false => true)) | false => false)) | false => (match Nat.blt t 40 with | true => false | false => (match Nat.blt t 43 with | true => false | false => (match Nat.blt t 44 with | true => true | false => false))))) | false => (match Nat.blt t 69 with | true => (match Nat.blt t 57 with | true => (match Nat.blt t 51 with | true => false | false => (match Nat.blt t 54 with | true => false | false => (match Nat.blt t 55 with | true => false | false => (match Nat.blt t 56 with | true => false | false => true)))) | false => (match Nat.blt t 63 with | true => (match Nat.blt t 60 with | true => false | false => (match Nat.blt t 61 with | true => true | false => false)) | false => (match Nat.blt t 66 with | true => false | false => (match Nat.blt t 67 with | true => false | false => (match Nat.blt t 68 with | true => false | false => true))))) | false => (match Nat.blt t 81 with | true => false | false => (match Nat.blt t 87 with | true => (match Nat.blt t 84 with | true => (match Nat.blt t 82 with | true => false | false => (match Nat.blt t 83 with | true => true | false => true)) | false => false) | false => false)))) | false => (match Nat.blt t 139 with | true => (match Nat.blt t 116 with | true => (match Nat.blt t 104 with | true => (match Nat.blt t 98 with | true => (match Nat.blt t 95 with | true => false | false => (match Nat.blt t 96 with | true => false | false => (match Nat.blt t 97 with | true => true | false => false))) | false => false) | false => (match Nat.blt t 110 with | true => false | false => (match Nat.blt t 113 with | true => false | false => (match Nat.blt t 114 with | true => false | false => (match Nat.blt t 115 with | true => true | false => true))))) | false => (match Nat.blt t 127 with | true => (match Nat.blt t 121 with | true => false | false => (match Nat.blt t 124 with | true => false | false => (match Nat.blt t 125 with | true => true | false => false))) | false => (match Nat.blt t 133 with | true => (match Nat.blt t 130 with | true => (match Nat.blt t 128 with | true => false | false => (match Nat.blt t 129 with | true => false | false => true)) | false => (match Nat.blt t 131 with | true => false | false => (match Nat.blt t 132 with | true => true | false => false))) | false => false))) | false => (match Nat.blt t 162 with | true => (match Nat.blt t 150 with | true => (match Nat.blt t 144 with | true => (match Nat.blt t 141 with | true => false | false => (match Nat.blt t 142 with | true => true | false => (match Nat.blt t 143 with | true => true | false => false))) | false => false) | false => false) | false => (match Nat.blt t 174 with | true => (match Nat.blt t 168 with | true => (match Nat.blt t 165 with | true => false | false => (match Nat.blt t 166 with | true => false | false => (match Nat.blt t 167 with | true => false | false => true))) | false => (match Nat.blt t 171 with | true => (match Nat.blt t 169 with | true => true | false => (match Nat.blt t 170 with | true => true | false => false)) | false => false)) | false => false))))
  | false => false

def D : TI := ⟨tyT, slT, byT, eqT0⟩
def nT : Nat := 186
end Go.SL.A

/- The seat's type tables fit the program. -/
namespace Go.SL.A
open Go Go.SL

theorem beyond {t : TypeId} (h : ¬ t < 186) : tyT t = none ∧ slT t = none ∧ eqT0 t = false := by
  have : Nat.blt t 186 = false := by
    cases hb : Nat.blt t 186 with
    | false => rfl
    | true => exact absurd (Nat.le_of_ble_eq_true hb) h
  refine ⟨?_, ?_, ?_⟩
  · unfold tyT; rw [this]
  · unfold slT; rw [this]
  · unfold eqT0; rw [this]

theorem tyAll : ((List.range 186).all fun T => chkTy Go.Proofs.Tryd.prog D T) = true := by kernel_rfl
theorem slAll : ((List.range 186).all fun T => chkSl Go.Proofs.Tryd.prog D T) = true := by kernel_rfl
theorem eqAll : ((List.range 186).all fun T => chkEq Go.Proofs.Tryd.prog D T) = true := by kernel_rfl

theorem good : Good Go.Proofs.Tryd.prog D where
  ty := fun T => by
    by_cases h : T < 186
    · exact List.all_eq_true.1 tyAll T (List.mem_range.2 h)
    · unfold chkTy; rw [show D.ty T = none from (beyond h).1]
  sl := fun T => by
    by_cases h : T < 186
    · exact List.all_eq_true.1 slAll T (List.mem_range.2 h)
    · unfold chkSl; rw [show D.sl T = none from (beyond h).2.1]
  eq := fun T => by
    by_cases h : T < 186
    · exact List.all_eq_true.1 eqAll T (List.mem_range.2 h)
    · unfold chkEq; rw [show D.eqok T = false from (beyond h).2.2]; rfl

theorem mix : Go.Proofs.Tryd.prog.follows .mixedOrders = true := by kernel_rfl

end Go.SL.A

/- No function is held to anything yet; steps of counts. -/
namespace Go.SL.S
def findIx (p : Int → Bool) : List Int → Nat → Int
  | [], _ => -1
  | x :: l, i => if p x then (i : Int) else findIx p l (i + 1)
end Go.SL.S
namespace Go.SL.A
open Go Go.SL Go.SL.S
def G00 : FuncId → Option Spec := fun _ => none
theorem snd00 : Sound Go.Proofs.Tryd.prog G00 := Sound.none
theorem step_i {i : Nat} (h : i < 1000000) : IntKind.i64.wrap ((i : Int) + 1) = ((i + 1 : Nat) : Int) := by rw [w64 (by omega) (by omega)]; simp
theorem findIx_sign (p : Int → Bool) : ∀ (l : List Int) (i : Nat), decide (0 ≤ findIx p l i) = l.any p
  | [], i => by simp [findIx]
  | x :: l, i => by
    rw [findIx, List.any_cons]
    cases h : p x with
    | true => simp
    | false => simp [findIx_sign p l (i + 1)]
theorem take_snoc' {α : Type} {l : List α} {k : Nat} (d : α) (h : k < l.length) : l.take (k + 1) = l.take k ++ [l.getD k d] := by
  rw [List.take_add_one]; simp [h]
end Go.SL.A

/- A bit of a number. -/
namespace Go.SL.S
open Go Go.SL
def bitX (x : Int) (j : Nat) : Bool := decide (x / 2 ^ j % 2 = 1)
end Go.SL.S
namespace Go.SL.A
open Go Go.SL Go.SL.S
theorem bit_shr {x : Int} (hx : 0 ≤ x ∧ x ≤ 18446744073709551615) {i : Nat} (hi : i < 64) : decide (iand .u64 (ishr .u64 x (i : Int)) 1 = 1) = bitX x i := by
  obtain ⟨n, rfl⟩ : ∃ n : Nat, x = n := ⟨x.toNat, by omega⟩
  have e1 : ishr .u64 (n : Int) (i : Int) = ((n / 2 ^ i : Nat) : Int) := by
    unfold ishr
    have : min ((i : Int).toNat) IntKind.u64.bits = i := by
      have : IntKind.u64.bits = 64 := rfl
      omega
    rw [this, Int.fdiv_eq_ediv_of_nonneg _ (by exact Int.pow_nonneg (by decide))]
    simp
  have hq : n / 2 ^ i ≤ n := Nat.div_le_self _ _
  have e2 : ∀ m : Nat, m < 18446744073709551616 → iand .u64 (m : Int) 1 = ((m % 2 : Nat) : Int) := fun m hm => by
    unfold iand
    have h1 : (BitVec.ofInt IntKind.u64.bits (m : Int) &&& BitVec.ofInt IntKind.u64.bits 1).toNat = m % 2 := by
      rw [BitVec.toNat_and, BitVec.ofInt_natCast, BitVec.toNat_ofNat]
      have e : (2 : Nat) ^ IntKind.u64.bits = 18446744073709551616 := by decide
      have e1 : (BitVec.ofInt IntKind.u64.bits 1).toNat = 1 := by decide
      rw [e, e1, Nat.mod_eq_of_lt hm, Nat.and_one_is_mod]
    rw [h1]
    have : IntKind.u64.wrap ((m % 2 : Nat) : Int) = ((m % 2 : Nat) : Int) % 18446744073709551616 := by simp [IntKind.wrap, IntKind.bits, IntKind.signed]
    rw [this]; omega
  rw [e1, e2 _ (by omega)]
  unfold bitX
  have hp : (n : Int) / 2 ^ i = ((n / 2 ^ i : Nat) : Int) := by simp
  rw [hp]
  congr 1

end Go.SL.A

/- Methods of types that lie in interfaces: none of pulse's here. -/
namespace Go.SL.A
open Go Go.SL
def meth14 : MethT := fun _ _ => none
theorem methOk : Meth Go.Proofs.Tryd.prog meth14 := Meth.none
end Go.SL.A

/- The seat: closed facts that the rows of all its statements ask. -/
namespace Go.Proofs.YthhfccnhkadkcaaDoor.Seat
open Go Go.SL
set_option maxRecDepth 100000
theorem io0 : Go.Proofs.Tryd.prog.initOrder = String.ofList (([104, 97, 114, 110, 101, 115, 115, 32, 99, 56, 56, 101, 48, 54, 56, 55, 99, 50, 50, 50, 57, 54, 49, 49, 49, 53, 100, 97, 50, 97, 56, 52, 100, 48, 102, 99, 49, 55, 99, 101, 101, 48, 57, 53, 97, 48, 100, 100, 48, 50, 56, 57, 56, 51, 50, 99, 48, 51, 50, 55, 98, 48, 98, 50, 55, 49, 54, 57, 99, 49, 98, 98, 32, 99, 117, 116, 32, 97, 116, 32, 98, 101, 108, 102, 114, 121, 47, 98, 101, 108, 102, 114, 121, 108, 97, 119, 50, 50, 46, 77, 97, 114, 107, 80, 108, 97, 121, 115, 32, 98, 101, 108, 102, 114, 121, 47, 98, 101, 108, 102, 114, 121, 108, 97, 119, 50, 50, 46, 77, 97, 114, 107, 70, 101, 119, 32, 98, 101, 108, 102, 114, 121, 47, 98, 101, 108, 102, 114, 121, 108, 97, 119, 50, 50, 46, 77, 97, 114, 107, 65, 103, 97, 105, 110, 32, 98, 101, 108, 102, 114, 121, 47, 98, 101, 108, 102, 114, 121, 108, 97, 119, 50, 50, 46, 77, 97, 114, 107, 79, 112, 112, 111, 115, 101, 100, 32, 98, 101, 108, 102, 114, 121, 47, 98, 101, 108, 102, 114, 121, 108, 97, 119, 50, 50, 46, 77, 97, 114, 107, 76, 101, 97, 115, 116, 32, 98, 101, 108, 102, 114, 121, 47, 98, 101, 108, 102, 114, 121, 108, 97, 119, 48, 55, 46, 76, 111, 97, 100, 84, 97, 107, 101, 115, 32, 98, 101, 108, 102, 114, 121, 47, 98, 101, 108, 102, 114, 121, 108, 97, 119, 48, 55, 46, 76, 111, 97, 100, 67, 104, 101, 99, 107, 115, 32, 98, 101, 108, 102, 114, 121, 47, 98, 101, 108, 102, 114, 121, 108, 97, 119, 48, 55, 46, 76, 111, 97, 100, 80, 108, 97, 121, 115, 32, 98, 101, 108, 102, 114, 121, 47, 98, 101, 108, 102, 114, 121, 108, 97, 119, 48, 55, 46, 76, 111, 97, 100, 68, 101, 99, 105, 100, 101, 115, 32, 98, 101, 108, 102, 114, 121, 47, 98, 101, 108, 102, 114, 121, 108, 97, 119, 48, 55, 46, 76, 111, 97, 100, 75, 101, 121, 115, 32, 98, 101, 108, 102, 114, 121, 47, 98, 101, 108, 102, 114, 121, 108, 97, 119, 50, 50, 46, 77, 97, 114, 107, 87, 105, 116, 104, 105, 110] : List Nat).map Char.ofNat) := by kernel_rfl
theorem io : Go.Proofs.Tryd.prog.initOrder.toList = ([104, 97, 114, 110, 101, 115, 115, 32, 99, 56, 56, 101, 48, 54, 56, 55, 99, 50, 50, 50, 57, 54, 49, 49, 49, 53, 100, 97, 50, 97, 56, 52, 100, 48, 102, 99, 49, 55, 99, 101, 101, 48, 57, 53, 97, 48, 100, 100, 48, 50, 56, 57, 56, 51, 50, 99, 48, 51, 50, 55, 98, 48, 98, 50, 55, 49, 54, 57, 99, 49, 98, 98, 32, 99, 117, 116, 32, 97, 116, 32, 98, 101, 108, 102, 114, 121, 47, 98, 101, 108, 102, 114, 121, 108, 97, 119, 50, 50, 46, 77, 97, 114, 107, 80, 108, 97, 121, 115, 32, 98, 101, 108, 102, 114, 121, 47, 98, 101, 108, 102, 114, 121, 108, 97, 119, 50, 50, 46, 77, 97, 114, 107, 70, 101, 119, 32, 98, 101, 108, 102, 114, 121, 47, 98, 101, 108, 102, 114, 121, 108, 97, 119, 50, 50, 46, 77, 97, 114, 107, 65, 103, 97, 105, 110, 32, 98, 101, 108, 102, 114, 121, 47, 98, 101, 108, 102, 114, 121, 108, 97, 119, 50, 50, 46, 77, 97, 114, 107, 79, 112, 112, 111, 115, 101, 100, 32, 98, 101, 108, 102, 114, 121, 47, 98, 101, 108, 102, 114, 121, 108, 97, 119, 50, 50, 46, 77, 97, 114, 107, 76, 101, 97, 115, 116, 32, 98, 101, 108, 102, 114, 121, 47, 98, 101, 108, 102, 114, 121, 108, 97, 119, 48, 55, 46, 76, 111, 97, 100, 84, 97, 107, 101, 115, 32, 98, 101, 108, 102, 114, 121, 47, 98, 101, 108, 102, 114, 121, 108, 97, 119, 48, 55, 46, 76, 111, 97, 100, 67, 104, 101, 99, 107, 115, 32, 98, 101, 108, 102, 114, 121, 47, 98, 101, 108, 102, 114, 121, 108, 97, 119, 48, 55, 46, 76, 111, 97, 100, 80, 108, 97, 121, 115, 32, 98, 101, 108, 102, 114, 121, 47, 98, 101, 108, 102, 114, 121, 108, 97, 119, 48, 55, 46, 76, 111, 97, 100, 68, 101, 99, 105, 100, 101, 115, 32, 98, 101, 108, 102, 114, 121, 47, 98, 101, 108, 102, 114, 121, 108, 97, 119, 48, 55, 46, 76, 111, 97, 100, 75, 101, 121, 115, 32, 98, 101, 108, 102, 114, 121, 47, 98, 101, 108, 102, 114, 121, 108, 97, 119, 50, 50, 46, 77, 97, 114, 107, 87, 105, 116, 104, 105, 110] : List Nat).map Char.ofNat := by
  rw [io0]; exact String.toList_ofList
theorem hd : ∃ rest, behindMainWord (wordsSigns Go.Proofs.Tryd.prog.initOrder.toList) = cutW :: rest := by
  rw [io]
  exact ⟨(behindMainWord (wordsSigns (([104, 97, 114, 110, 101, 115, 115, 32, 99, 56, 56, 101, 48, 54, 56, 55, 99, 50, 50, 50, 57, 54, 49, 49, 49, 53, 100, 97, 50, 97, 56, 52, 100, 48, 102, 99, 49, 55, 99, 101, 101, 48, 57, 53, 97, 48, 100, 100, 48, 50, 56, 57, 56, 51, 50, 99, 48, 51, 50, 55, 98, 48, 98, 50, 55, 49, 54, 57, 99, 49, 98, 98, 32, 99, 117, 116, 32, 97, 116, 32, 98, 101, 108, 102, 114, 121, 47, 98, 101, 108, 102, 114, 121, 108, 97, 119, 50, 50, 46, 77, 97, 114, 107, 80, 108, 97, 121, 115, 32, 98, 101, 108, 102, 114, 121, 47, 98, 101, 108, 102, 114, 121, 108, 97, 119, 50, 50, 46, 77, 97, 114, 107, 70, 101, 119, 32, 98, 101, 108, 102, 114, 121, 47, 98, 101, 108, 102, 114, 121, 108, 97, 119, 50, 50, 46, 77, 97, 114, 107, 65, 103, 97, 105, 110, 32, 98, 101, 108, 102, 114, 121, 47, 98, 101, 108, 102, 114, 121, 108, 97, 119, 50, 50, 46, 77, 97, 114, 107, 79, 112, 112, 111, 115, 101, 100, 32, 98, 101, 108, 102, 114, 121, 47, 98, 101, 108, 102, 114, 121, 108, 97, 119, 50, 50, 46, 77, 97, 114, 107, 76, 101, 97, 115, 116, 32, 98, 101, 108, 102, 114, 121, 47, 98, 101, 108, 102, 114, 121, 108, 97, 119, 48, 55, 46, 76, 111, 97, 100, 84, 97, 107, 101, 115, 32, 98, 101, 108, 102, 114, 121, 47, 98, 101, 108, 102, 114, 121, 108, 97, 119, 48, 55, 46, 76, 111, 97, 100, 67, 104, 101, 99, 107, 115, 32, 98, 101, 108, 102, 114, 121, 47, 98, 101, 108, 102, 114, 121, 108, 97, 119, 48, 55, 46, 76, 111, 97, 100, 80, 108, 97, 121, 115, 32, 98, 101, 108, 102, 114, 121, 47, 98, 101, 108, 102, 114, 121, 108, 97, 119, 48, 55, 46, 76, 111, 97, 100, 68, 101, 99, 105, 100, 101, 115, 32, 98, 101, 108, 102, 114, 121, 47, 98, 101, 108, 102, 114, 121, 108, 97, 119, 48, 55, 46, 76, 111, 97, 100, 75, 101, 121, 115, 32, 98, 101, 108, 102, 114, 121, 47, 98, 101, 108, 102, 114, 121, 108, 97, 119, 50, 50, 46, 77, 97, 114, 107, 87, 105, 116, 104, 105, 110] : List Nat).map Char.ofNat))).tail, by kernel_rfl⟩
theorem later : Go.Proofs.Tryd.prog.laysLater = false := by kernel_rfl
theorem reflects : Go.Proofs.Tryd.prog.bearsReflect = false := by kernel_rfl
theorem door : Go.Proofs.Tryd.prog.doorFits [] = true := by kernel_rfl
theorem mayEnter : Go.Proofs.Tryd.prog.mayEnter = true := let ⟨_, h⟩ := hd; mayEnter_cut h later reflects door
theorem lifts : Go.Proofs.Tryd.prog.liftsFinal = false := let ⟨_, h⟩ := hd; lifts_cut h
theorem made : Go.Proofs.Tryd.prog.make = some .cut := let ⟨_, h⟩ := hd; make_cut h
theorem laidOut : laidOutB Go.Proofs.Tryd.prog = true := by kernel_rfl
theorem mapsRowed : mapsRowed Go.Proofs.Tryd.prog = true := by kernel_rfl
theorem stops : (Go.Proofs.Tryd.prog.stops == []) = true := by kernel_rfl
theorem knobs : (Go.Proofs.Tryd.prog.stopKnobs == []) = true := by kernel_rfl
theorem heard : Go.Proofs.Tryd.prog.stopsHeard = true := by kernel_rfl
theorem own : ownKnob Go.Proofs.Tryd.prog.godebug = none := by kernel_rfl
theorem kids : Kids Go.Proofs.Tryd.prog (· < Go.Proofs.Tryd.prog.types.size) := kids_rows laidOut mapsRowed
theorem slicesFull : ∀ t e, t < Go.Proofs.Tryd.prog.types.size → Go.Proofs.Tryd.prog.underlying t = some (.slice e) → 0 < Go.Proofs.Tryd.prog.cellsOf e := slices_full_of Go.Proofs.Tryd.prog (by kernel_rfl)
end Go.Proofs.YthhfccnhkadkcaaDoor.Seat

/- What the package-level table holds, and a world in which it does. -/
namespace Go.Proofs.YthhfccnhkadkcaaDoor.Seat
open Go Go.SL Go.SL.S
set_option maxRecDepth 100000
abbrev cells4 : Array Value := #[.int .u64 8317987319222330741, .int .u64 7237128888997146477, .int .u64 7816392313619706465, .int .u64 8387220255154660723]
theorem gname : Go.Proofs.Tryd.prog.globalNamed "belfry/sip.signs" = some 0 := by kernel_rfl
theorem gtype : (Go.Proofs.Tryd.prog.globals[0]?).map (·.type) = some 124 := by kernel_rfl
theorem u124 : Go.Proofs.Tryd.prog.underlying 124 = some (.array 4 65) := by kernel_rfl
theorem u65 : Go.Proofs.Tryd.prog.underlying 65 = some (.int .u64) := by kernel_rfl
theorem c124 : Go.Proofs.Tryd.prog.cellsOf 124 = 4 := by kernel_rfl
theorem c65 : Go.Proofs.Tryd.prog.cellsOf 65 = 1 := by kernel_rfl

theorem four {α β : Type} {f : α → Option β} {a b c d : α} {xs : List β} (h : [a, b, c, d].mapM f = some xs) : ∃ w x y z, f a = some w ∧ f b = some x ∧ f c = some y ∧ f d = some z ∧ xs = [w, x, y, z] := by
  simp only [List.mapM_cons, List.mapM_nil, Option.bind_eq_bind, Option.bind_eq_some_iff, Option.pure_def, Option.some.injEq] at h
  obtain ⟨w, h1, l1, ⟨x, h2, l2, ⟨y, h3, l3, ⟨z, h4, l4, h5, h6⟩, h7⟩, h8⟩, h9⟩ := h
  subst h5 h6 h7 h8 h9
  exact ⟨w, x, y, z, h1, h2, h3, h4, rfl⟩

/-- What the row's condition says of the table. -/
theorem signs_of {W : World} (h : laidMetH Go.Proofs.Tryd.prog [("belfry/sip.signs", Rows.laid_belfry_sip_signs)] W) : W.var? Go.Proofs.Tryd.prog "belfry/sip.signs" = some cells4 := by
  have h : laidMet Go.Proofs.Tryd.prog [("belfry/sip.signs", Rows.laid_belfry_sip_signs)] W := h
  obtain ⟨ps, ⟨g, t, cs, fuel, p, q, hg, ht, hv, htr, -, -⟩, -, -⟩ := h
  obtain rfl : 0 = g := Option.some.inj (gname.symm.trans hg)
  obtain rfl : 124 = t := Option.some.inj (gtype.symm.trans ht)
  rw [hv]
  congr 1
  cases fuel with
  | zero => cases htr
  | succ fuel =>
    simp only [DataW.trod, u124] at htr
    split at htr
    · rename_i hl
      rw [c124] at hl
      rw [Option.map_eq_some_iff] at htr
      obtain ⟨xs, hm, he⟩ := htr
      have hr : List.range 4 = [0, 1, 2, 3] := rfl
      rw [hr] at hm
      obtain ⟨w, x, y, z, h1, h2, h3, h4, rfl⟩ := four hm
      obtain ⟨n1, e1, r1, -⟩ := DataW.trod_int u65 h1
      obtain ⟨n2, e2, r2, -⟩ := DataW.trod_int u65 h2
      obtain ⟨n3, e3, r3, -⟩ := DataW.trod_int u65 h3
      obtain ⟨n4, e4, r4, -⟩ := DataW.trod_int u65 h4
      subst r1 r2 r3 r4
      have he := congrArg Prod.fst he
      have he : (.agg [.lit (.int .u64 n1), .lit (.int .u64 n2), .lit (.int .u64 n3), .lit (.int .u64 n4)] : DataW Unit) = Rows.laid_belfry_sip_signs := he
      unfold Rows.laid_belfry_sip_signs at he
      simp only [DataW.agg.injEq, List.cons.injEq, DataW.lit.injEq, Lit.int.injEq, true_and, and_true] at he
      obtain ⟨rfl, rfl, rfl, rfl⟩ := he
      rw [c65] at e1 e2 e3 e4
      apply Array.toList_inj.1
      match hcs : cs.toList, hl with
      | [a, b, c, d], _ =>
        rw [hcs] at e1 e2 e3 e4
        simp at e1 e2 e3 e4
        rw [e1, e2, e3, e4]
    · cases htr

theorem signs_gl {W : World} (h : laidMetH Go.Proofs.Tryd.prog [("belfry/sip.signs", Rows.laid_belfry_sip_signs)] W) (g : Nat) (a : AV) (hg : GTab.tab g = some a) : ∃ cs T fr, W.heap[g]? = some (.cells cs T fr) ∧ ∀ E', CR E' a.t a.x cs.toList := by
  have hv := signs_of h
  have hg : (bif Nat.beq g 0 then some (⟨.arr 4 (.int .u64), sgL⟩ : AV) else none) = some a := hg
  cases hb : Nat.beq g 0 with
  | false => rw [hb] at hg; cases hg
  | true =>
    rw [hb] at hg
    obtain rfl := Nat.eq_of_beq_eq_true hb
    cases hg
    unfold World.var? at hv
    rw [gname] at hv
    simp only [Option.bind_some] at hv
    split at hv
    · rename_i cs T fr hh
      cases hv
      refine ⟨cells4, T, fr, hh, fun E' => ?_⟩
      simp only [CR]
      refine ⟨rfl, [_], _, rfl, ⟨rfl, by decide, by decide⟩, [_], _, rfl, ⟨rfl, by decide, by decide⟩, [_], _, rfl, ⟨rfl, by decide, by decide⟩, [_], _, rfl, ⟨rfl, by decide, by decide⟩, rfl⟩
    · cases hv

/-- A world that meets the condition. -/
noncomputable def laidWorld (os : Os) : World :=
  let w0 := World.holding Go.Proofs.Tryd.prog os ⟨#[], #[], []⟩
  { w0 with heap := w0.heap.modify 0 fun
      | .cells _ t frozen => .cells cells4 t frozen
      | o => o }
theorem laidWorld_met (os : Os) (args : Array Value) : laidMetH Go.Proofs.Tryd.prog [("belfry/sip.signs", Rows.laid_belfry_sip_signs)] ((laidWorld os).forCall (fun _ _ => 0) ⟨#[], args, []⟩).memory :=
  show laidMet _ _ _ from laidMet_of_run' 4 (by kernel_rfl) (by kernel_rfl)
end Go.Proofs.YthhfccnhkadkcaaDoor.Seat
