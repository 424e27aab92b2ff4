import Derived.Shelf.Strings.Builder1
import Derived.Shelf.Strings.Builder2
import Derived.Shelf.Strings.Trim
import Derived.Shelf.Small.Utf8
import Derived.Shelf.Small.Strs
import Derived.Shelf.Utf8.RuneCount
import Derived.Shelf.Strings.Search1
import Derived.Shelf.Strings.Search2
import Derived.Shelf.Strings.Search3
import Derived.Shelf.Strings.Count
import Derived.Shelf.LaysM
import Derived.Shelf.Strings.Shaped
import Derived.Shelf.Strings.Prefix
import Derived.Shelf.Strings.Split
import Derived.Shelf.Strings.Replace
import Derived.Shelf.Strings.SplitShaped
import Derived.Shelf.Strings.Runes
import Derived.Shelf.Strings.AsciiSet
import Derived.Shelf.Unicode.DecodeSlow
import Derived.Shelf.Unicode.DecodeAny
import Derived.Test.YtjdllofmhglmiaaGreatDoorProg
namespace Go.Proofs
open Go.Shelf
open Go.RowKit in
open Go.RowKit in
open Go.RowKit in
open Go.RowKit in
open Go.RowKit in
open Go.RowKit in
def Tryz.lays161_ren : Go.Shelf.Ren := ⟨fun | 161 => 219 | 231 => 254 | 227 => 255 | 233 => 256 | 235 => 257 | 228 => 275 | 197 => 253 | 151 => 276 | 260 => 274 | 152 => 284 | 137 => 221 | 119 => 294 | 224 => 229 | 225 => 228 | 217 => 227 | 266 => 266 | n => n, fun | 9 => 9 | 4 => 4 | 3 => 3 | 5 => 5 | 117 => 173 | 116 => 172 | 0 => 0 | 124 => 176 | 105 => 152 | 21 => 21 | 119 => 194 | 46 => 157 | 139 => 197 | 138 => 196 | n => n, fun | 3 => 1 | 4 => 2 | n => n⟩
theorem Tryz.lays161 : Go.Proofs.Lays.n161 Tryz.prog Tryz.lays161_ren := {
  mixed := by kernel_rfl
  f119 := Tryz.func294.trans (congrArg some (by kernel_rfl))
  f137 := Tryz.func221.trans (congrArg some (by kernel_rfl))
  f151 := Tryz.func276.trans (congrArg some (by kernel_rfl))
  f152 := Tryz.func284.trans (congrArg some (by kernel_rfl))
  f161 := Tryz.func219.trans (congrArg some (by kernel_rfl))
  f197 := Tryz.func253.trans (congrArg some (by kernel_rfl))
  f217 := Tryz.func227.trans (congrArg some (by kernel_rfl))
  f224 := Tryz.func229.trans (congrArg some (by kernel_rfl))
  f225 := Tryz.func228.trans (congrArg some (by kernel_rfl))
  f227 := Tryz.func255.trans (congrArg some (by kernel_rfl))
  f228 := Tryz.func275.trans (congrArg some (by kernel_rfl))
  f231 := Tryz.func254.trans (congrArg some (by kernel_rfl))
  f233 := Tryz.func256.trans (congrArg some (by kernel_rfl))
  f235 := Tryz.func257.trans (congrArg some (by kernel_rfl))
  f260 := Tryz.func274.trans (congrArg some (by kernel_rfl))
  f266 := Tryz.func266.trans (congrArg some (by kernel_rfl))
  t0 := Tryz.underlying0
  a0 := Tryz.isAgg0
  z0 := Tryz.sizeOf0
  v0 := Tryz.zeroValue0
  t3 := Tryz.underlying3
  a3 := Tryz.isAgg3
  z3 := Tryz.sizeOf3
  v3 := Tryz.zeroValue3
  t4 := Tryz.underlying4
  a4 := Tryz.isAgg4
  z4 := Tryz.sizeOf4
  v4 := Tryz.zeroValue4
  t5 := Tryz.underlying5
  a5 := Tryz.isAgg5
  z5 := Tryz.sizeOf5
  v5 := Tryz.zeroValue5
  t9 := Tryz.underlying9
  a9 := Tryz.isAgg9
  z9 := Tryz.sizeOf9
  v9 := Tryz.zeroValue9
  t21 := Tryz.underlying21
  a21 := Tryz.isAgg21
  z21 := Tryz.sizeOf21
  v21 := Tryz.zeroValue21
  t46 := Tryz.underlying157
  a46 := Tryz.isAgg157
  z46 := Tryz.sizeOf157
  v46 := Tryz.zeroValue157
  t105 := Tryz.underlying152
  a105 := Tryz.isAgg152
  z105 := Tryz.sizeOf152
  v105 := Tryz.zeroValue152
  t116 := Tryz.underlying172
  a116 := Tryz.isAgg172
  z116 := Tryz.sizeOf172
  t117 := Tryz.underlying173
  a117 := Tryz.isAgg173
  z117 := Tryz.sizeOf173
  v117 := Tryz.zeroValue173
  t119 := Tryz.underlying194
  a119 := Tryz.isAgg194
  z119 := Tryz.sizeOf194
  t124 := Tryz.underlying176
  a124 := Tryz.isAgg176
  z124 := Tryz.sizeOf176
  v124 := Tryz.zeroValue176
  t138 := Tryz.underlying196
  a138 := Tryz.isAgg196
  z138 := Tryz.sizeOf196
  v138 := Tryz.zeroValue196
  t139 := Tryz.underlying197
  a139 := Tryz.isAgg197
  z139 := Tryz.sizeOf197
  v139 := Tryz.zeroValue197
  g3 := by kernel_rfl
  g4 := by kernel_rfl }
open Go.RowKit in
def Tryz.lays119_ren : Go.Shelf.Ren := ⟨fun | 119 => 294 | n => n, fun | 21 => 21 | 4 => 4 | n => n, fun | n => n⟩
theorem Tryz.lays119 : Go.Proofs.Lays.n119 Tryz.prog Tryz.lays119_ren := {
  mixed := by kernel_rfl
  f119 := Tryz.func294.trans (congrArg some (by kernel_rfl))
  t4 := Tryz.underlying4
  a4 := Tryz.isAgg4
  z4 := Tryz.sizeOf4
  v4 := Tryz.zeroValue4
  t21 := Tryz.underlying21
  a21 := Tryz.isAgg21
  z21 := Tryz.sizeOf21
  v21 := Tryz.zeroValue21 }
theorem Tryz.utf8_ValidRune (r : Int) (w : World) :
    Calls Tryz.prog 294 #[.int .i32 r] w fun e w' => e = .returned (.bool (Lib.validRune r)) ∧ w' = w := Any.utf8_ValidRune Tryz.lays119 r w
def Tryz.lays137_ren : Go.Shelf.Ren := ⟨fun | 137 => 221 | 217 => 227 | 266 => 266 | n => n, fun | 9 => 9 | 5 => 5 | 3 => 3 | n => n, fun | n => n⟩
theorem Tryz.lays137 : Go.Proofs.Lays.n137 Tryz.prog Tryz.lays137_ren := {
  mixed := by kernel_rfl
  f137 := Tryz.func221.trans (congrArg some (by kernel_rfl))
  f217 := Tryz.func227.trans (congrArg some (by kernel_rfl))
  f266 := Tryz.func266.trans (congrArg some (by kernel_rfl))
  t3 := Tryz.underlying3
  a3 := Tryz.isAgg3
  z3 := Tryz.sizeOf3
  v3 := Tryz.zeroValue3
  t5 := Tryz.underlying5
  a5 := Tryz.isAgg5
  z5 := Tryz.sizeOf5
  v5 := Tryz.zeroValue5
  t9 := Tryz.underlying9
  a9 := Tryz.isAgg9
  z9 := Tryz.sizeOf9
  v9 := Tryz.zeroValue9 }
open Go.RowKit in
theorem Tryz.strings_IndexByte (s : ByteArray) (c : Int) (w : World) :
    Calls Tryz.prog 221 #[.string s, .int .u8 c] w fun e w' => e = .returned (.int .i64 (Lib.indexByte s.data.toList c.toNat.toUInt8)) ∧ w' = w := Any.strings_IndexByte Tryz.lays137 s c w
open Go.RowKit in
open Go.RowKit Go.Lib in
open Go.RowKit Go.Lib in
open Go.RowKit Go.Lib in
open Go.RowKit Go.Lib in
open Go.RowKit Go.Lib in
open Go.RowKit Go.Lib in
def Tryz.lays143_ren : Go.Shelf.Ren := ⟨fun | 143 => 147 | 219 => 184 | 217 => 227 | 225 => 228 | 224 => 229 | 267 => 230 | 266 => 266 | 314 => 267 | n => n, fun | 9 => 9 | 3 => 3 | 4 => 4 | 5 => 5 | 46 => 157 | 146 => 183 | 51 => 182 | n => n, fun | 1 => 0 | n => n⟩
theorem Tryz.lays143 : Go.Proofs.Lays.n143 Tryz.prog Tryz.lays143_ren := {
  mixed := by kernel_rfl
  f143 := Tryz.func147.trans (congrArg some (by kernel_rfl))
  f217 := Tryz.func227.trans (congrArg some (by kernel_rfl))
  f219 := Tryz.func184.trans (congrArg some (by kernel_rfl))
  f224 := Tryz.func229.trans (congrArg some (by kernel_rfl))
  f225 := Tryz.func228.trans (congrArg some (by kernel_rfl))
  f266 := Tryz.func266.trans (congrArg some (by kernel_rfl))
  f267 := Tryz.func230.trans (congrArg some (by kernel_rfl))
  f314 := Tryz.func267.trans (congrArg some (by kernel_rfl))
  t3 := Tryz.underlying3
  a3 := Tryz.isAgg3
  z3 := Tryz.sizeOf3
  v3 := Tryz.zeroValue3
  t4 := Tryz.underlying4
  a4 := Tryz.isAgg4
  z4 := Tryz.sizeOf4
  v4 := Tryz.zeroValue4
  t5 := Tryz.underlying5
  a5 := Tryz.isAgg5
  z5 := Tryz.sizeOf5
  v5 := Tryz.zeroValue5
  t9 := Tryz.underlying9
  a9 := Tryz.isAgg9
  z9 := Tryz.sizeOf9
  v9 := Tryz.zeroValue9
  t46 := Tryz.underlying157
  a46 := Tryz.isAgg157
  z46 := Tryz.sizeOf157
  v46 := Tryz.zeroValue157
  t51 := Tryz.underlying182
  a51 := Tryz.isAgg182
  z51 := Tryz.sizeOf182
  v51 := Tryz.zeroValue182
  t146 := Tryz.underlying183
  a146 := Tryz.isAgg183
  z146 := Tryz.sizeOf183
  v146 := Tryz.zeroValue183
  g1 := by kernel_rfl }
open Go.RowKit Go.Lib in
open Go.RowKit Go.Lib in
theorem Tryz.strings_Index (s sub : ByteArray) (m : Int) (w : World) (hs : s.size < 4294967281) (hm : w.cell? ⟨0, 0, none⟩ = some (.int .i64 m)) :
    Calls Tryz.prog 147 #[.string s, .string sub] w fun e w' => e = .returned (.int .i64 (Lib.index s.data.toList sub.data.toList)) ∧ w' = w := Any.strings_Index Tryz.lays143 s sub m w hs hm
def Tryz.lays144_ren : Go.Shelf.Ren := ⟨fun | 144 => 106 | 143 => 147 | 219 => 184 | 217 => 227 | 225 => 228 | 224 => 229 | 267 => 230 | 266 => 266 | 314 => 267 | n => n, fun | 9 => 9 | 4 => 4 | 3 => 3 | 5 => 5 | 46 => 157 | 146 => 183 | 51 => 182 | n => n, fun | 1 => 0 | n => n⟩
theorem Tryz.lays144 : Go.Proofs.Lays.n144 Tryz.prog Tryz.lays144_ren := {
  mixed := by kernel_rfl
  f143 := Tryz.func147.trans (congrArg some (by kernel_rfl))
  f144 := Tryz.func106.trans (congrArg some (by kernel_rfl))
  f217 := Tryz.func227.trans (congrArg some (by kernel_rfl))
  f219 := Tryz.func184.trans (congrArg some (by kernel_rfl))
  f224 := Tryz.func229.trans (congrArg some (by kernel_rfl))
  f225 := Tryz.func228.trans (congrArg some (by kernel_rfl))
  f266 := Tryz.func266.trans (congrArg some (by kernel_rfl))
  f267 := Tryz.func230.trans (congrArg some (by kernel_rfl))
  f314 := Tryz.func267.trans (congrArg some (by kernel_rfl))
  t3 := Tryz.underlying3
  a3 := Tryz.isAgg3
  z3 := Tryz.sizeOf3
  v3 := Tryz.zeroValue3
  t4 := Tryz.underlying4
  a4 := Tryz.isAgg4
  z4 := Tryz.sizeOf4
  v4 := Tryz.zeroValue4
  t5 := Tryz.underlying5
  a5 := Tryz.isAgg5
  z5 := Tryz.sizeOf5
  v5 := Tryz.zeroValue5
  t9 := Tryz.underlying9
  a9 := Tryz.isAgg9
  z9 := Tryz.sizeOf9
  v9 := Tryz.zeroValue9
  t46 := Tryz.underlying157
  a46 := Tryz.isAgg157
  z46 := Tryz.sizeOf157
  v46 := Tryz.zeroValue157
  t51 := Tryz.underlying182
  a51 := Tryz.isAgg182
  z51 := Tryz.sizeOf182
  v51 := Tryz.zeroValue182
  t146 := Tryz.underlying183
  a146 := Tryz.isAgg183
  z146 := Tryz.sizeOf183
  v146 := Tryz.zeroValue183
  g1 := by kernel_rfl }
open Go.RowKit Go.Lib in
theorem Tryz.strings_Contains_one (s : ByteArray) (c : UInt8) (w : World) :
    Calls Tryz.prog 106 #[.string s, .string ⟨#[c]⟩] w fun e w' => e = .returned (.bool (decide (0 ≤ Lib.indexByte s.data.toList c))) ∧ w' = w := Any.strings_Contains_one Tryz.lays144 s c w
open Go.RowKit Go.Lib in
open Go.RowKit Go.Lib in
open Go.RowKit Go.Lib in
def Tryz.laysM219_ren : Go.Shelf.Ren := ⟨fun | 219 => 184 | 217 => 227 | 225 => 228 | 224 => 229 | 267 => 230 | 266 => 266 | 314 => 267 | n => n, fun | 9 => 9 | 3 => 3 | 4 => 4 | 5 => 5 | 46 => 157 | 146 => 183 | 51 => 182 | n => n, fun | 1 => 0 | n => n⟩
theorem Tryz.laysM219 : Go.Proofs.LaysM.n219 Tryz.prog Tryz.laysM219_ren := {
  mixed := by kernel_rfl
  f217 := Tryz.func227.trans (congrArg some (by kernel_rfl))
  f219 := Tryz.func184.trans (congrArg some (by kernel_rfl))
  f224 := Tryz.func229.trans (congrArg some (by kernel_rfl))
  f225 := Tryz.func228.trans (congrArg some (by kernel_rfl))
  f266 := Tryz.func266.trans (congrArg some (by kernel_rfl))
  f267 := Tryz.func230.trans (congrArg some (by kernel_rfl))
  f314 := Tryz.func267.trans (congrArg some (by kernel_rfl))
  t3 := Tryz.underlying3
  a3 := Tryz.isAgg3
  z3 := Tryz.sizeOf3
  v3 := Tryz.zeroValue3
  t4 := Tryz.underlying4
  a4 := Tryz.isAgg4
  z4 := Tryz.sizeOf4
  v4 := Tryz.zeroValue4
  t5 := Tryz.underlying5
  a5 := Tryz.isAgg5
  z5 := Tryz.sizeOf5
  v5 := Tryz.zeroValue5
  t9 := Tryz.underlying9
  a9 := Tryz.isAgg9
  z9 := Tryz.sizeOf9
  v9 := Tryz.zeroValue9
  t46 := Tryz.underlying157
  a46 := Tryz.isAgg157
  z46 := Tryz.sizeOf157
  v46 := Tryz.zeroValue157
  t51 := Tryz.underlying182
  a51 := Tryz.isAgg182
  z51 := Tryz.sizeOf182
  v51 := Tryz.zeroValue182
  t146 := Tryz.underlying183
  a146 := Tryz.isAgg183
  z146 := Tryz.sizeOf183
  v146 := Tryz.zeroValue183
  g1 := by kernel_rfl
  i3 := by kernel_rfl
  i4 := by kernel_rfl
  i5 := by kernel_rfl
  i9 := by kernel_rfl
  i46 := by kernel_rfl
  i51 := by kernel_rfl
  i146 := by kernel_rfl
  m1 := by kernel_rfl
  s1_3 := fun w h => Go.Proofs.cell_of_shapedOpen_int (zero := #[.int .i64 0]) (t := 3) h (of_decide_eq_true (by kernel_rfl)) (by kernel_rfl) rfl (by kernel_rfl) (by kernel_rfl) Tryz.underlying3 }
open Go.RowKit Go.Lib in
open Go.RowKit Go.Lib in
open Go.RowKit Go.Lib in
open Go.RowKit Go.Lib in
open Go.RowKit Go.Lib in
def Tryz.lays99_ren : Go.Shelf.Ren := ⟨fun | 99 => 220 | 206 => 258 | n => n, fun | 9 => 9 | 4 => 4 | 3 => 3 | n => n, fun | n => n⟩
theorem Tryz.lays99 : Go.Proofs.Lays.n99 Tryz.prog Tryz.lays99_ren := {
  mixed := by kernel_rfl
  f99 := Tryz.func220.trans (congrArg some (by kernel_rfl))
  f206 := Tryz.func258.trans (congrArg some (by kernel_rfl))
  t3 := Tryz.underlying3
  a3 := Tryz.isAgg3
  z3 := Tryz.sizeOf3
  v3 := Tryz.zeroValue3
  t4 := Tryz.underlying4
  a4 := Tryz.isAgg4
  z4 := Tryz.sizeOf4
  v4 := Tryz.zeroValue4
  t9 := Tryz.underlying9
  a9 := Tryz.isAgg9
  z9 := Tryz.sizeOf9
  v9 := Tryz.zeroValue9 }
open Go.RowKit Go.Lib in
theorem Tryz.strings_HasPrefix (s p : ByteArray) (w : World) :
    Calls Tryz.prog 220 #[.string s, .string p] w fun e w' => e = .returned (.bool (Lib.hasPrefix s.data.toList p.data.toList)) ∧ w' = w := Any.strings_HasPrefix Tryz.lays99 s p w
open Go.RowKit Go.Lib in
def Tryz.lays100_ren : Go.Shelf.Ren := ⟨fun | 100 => 278 | 207 => 288 | n => n, fun | 9 => 9 | 4 => 4 | 3 => 3 | n => n, fun | n => n⟩
theorem Tryz.lays100 : Go.Proofs.Lays.n100 Tryz.prog Tryz.lays100_ren := {
  mixed := by kernel_rfl
  f100 := Tryz.func278.trans (congrArg some (by kernel_rfl))
  f207 := Tryz.func288.trans (congrArg some (by kernel_rfl))
  t3 := Tryz.underlying3
  a3 := Tryz.isAgg3
  z3 := Tryz.sizeOf3
  v3 := Tryz.zeroValue3
  t4 := Tryz.underlying4
  a4 := Tryz.isAgg4
  z4 := Tryz.sizeOf4
  v4 := Tryz.zeroValue4
  t9 := Tryz.underlying9
  a9 := Tryz.isAgg9
  z9 := Tryz.sizeOf9
  v9 := Tryz.zeroValue9 }
open Go.RowKit Go.Lib in
theorem Tryz.strings_HasSuffix (s p : ByteArray) (w : World) (hs : s.size ≤ 9223372036854775807) :
    Calls Tryz.prog 278 #[.string s, .string p] w fun e w' => e = .returned (.bool (Lib.hasSuffix s.data.toList p.data.toList)) ∧ w' = w := Any.strings_HasSuffix Tryz.lays100 s p w hs
open Go.RowKit Go.Lib in
def Tryz.lays101_ren : Go.Shelf.Ren := ⟨fun | 101 => 295 | 208 => 303 | 206 => 258 | n => n, fun | 9 => 9 | 4 => 4 | 3 => 3 | n => n, fun | n => n⟩
theorem Tryz.lays101 : Go.Proofs.Lays.n101 Tryz.prog Tryz.lays101_ren := {
  mixed := by kernel_rfl
  f101 := Tryz.func295.trans (congrArg some (by kernel_rfl))
  f206 := Tryz.func258.trans (congrArg some (by kernel_rfl))
  f208 := Tryz.func303.trans (congrArg some (by kernel_rfl))
  t3 := Tryz.underlying3
  a3 := Tryz.isAgg3
  z3 := Tryz.sizeOf3
  v3 := Tryz.zeroValue3
  t4 := Tryz.underlying4
  a4 := Tryz.isAgg4
  z4 := Tryz.sizeOf4
  v4 := Tryz.zeroValue4
  t9 := Tryz.underlying9
  a9 := Tryz.isAgg9
  z9 := Tryz.sizeOf9
  v9 := Tryz.zeroValue9 }
open Go.RowKit Go.Lib in
theorem Tryz.strings_TrimPrefix (s p : ByteArray) (w : World) :
    Calls Tryz.prog 295 #[.string s, .string p] w fun e w' => e = .returned (.string ⟨(Lib.trimPrefix s.data.toList p.data.toList).toArray⟩) ∧ w' = w := Any.strings_TrimPrefix Tryz.lays101 s p w
open Go.RowKit Go.Lib in
open Go.RowKit Go.Lib in
open Go.RowKit Go.Lib in
open Go.RowKit Go.Lib in
open Go.RowKit Go.Lib in
def Tryz.lays155_ren : Go.Shelf.Ren := ⟨fun | 155 => 280 | 154 => 290 | 138 => 297 | 165 => 298 | 143 => 147 | 166 => 299 | 197 => 253 | 169 => 300 | 195 => 304 | 218 => 305 | 240 => 306 | 241 => 307 | 219 => 184 | 260 => 274 | 276 => 310 | 277 => 311 | 217 => 227 | 225 => 228 | 224 => 229 | 267 => 230 | 266 => 266 | 314 => 267 | n => n, fun | 9 => 9 | 3 => 3 | 4 => 4 | 72 => 204 | 0 => 0 | 76 => 208 | 105 => 152 | 21 => 21 | 5 => 5 | 70 => 202 | 20 => 20 | 37 => 32 | 75 => 207 | 127 => 212 | 164 => 215 | 46 => 157 | 119 => 194 | 139 => 197 | 138 => 196 | 146 => 183 | 51 => 182 | 80 => 100 | n => n, fun | 1 => 0 | 3 => 1 | 4 => 2 | n => n⟩
theorem Tryz.lays155 : Go.Proofs.Lays.n155 Tryz.prog Tryz.lays155_ren := {
  mixed := by kernel_rfl
  f138 := Tryz.func297.trans (congrArg some (by kernel_rfl))
  f143 := Tryz.func147.trans (congrArg some (by kernel_rfl))
  f154 := Tryz.func290.trans (congrArg some (by kernel_rfl))
  f155 := Tryz.func280.trans (congrArg some (by kernel_rfl))
  f165 := Tryz.func298.trans (congrArg some (by kernel_rfl))
  f166 := Tryz.func299.trans (congrArg some (by kernel_rfl))
  f169 := Tryz.func300.trans (congrArg some (by kernel_rfl))
  f195 := Tryz.func304.trans (congrArg some (by kernel_rfl))
  f197 := Tryz.func253.trans (congrArg some (by kernel_rfl))
  f217 := Tryz.func227.trans (congrArg some (by kernel_rfl))
  f218 := Tryz.func305.trans (congrArg some (by kernel_rfl))
  f219 := Tryz.func184.trans (congrArg some (by kernel_rfl))
  f224 := Tryz.func229.trans (congrArg some (by kernel_rfl))
  f225 := Tryz.func228.trans (congrArg some (by kernel_rfl))
  f240 := Tryz.func306.trans (congrArg some (by kernel_rfl))
  f241 := Tryz.func307.trans (congrArg some (by kernel_rfl))
  f260 := Tryz.func274.trans (congrArg some (by kernel_rfl))
  f266 := Tryz.func266.trans (congrArg some (by kernel_rfl))
  f267 := Tryz.func230.trans (congrArg some (by kernel_rfl))
  f276 := Tryz.func310.trans (congrArg some (by kernel_rfl))
  f277 := Tryz.func311.trans (congrArg some (by kernel_rfl))
  f314 := Tryz.func267.trans (congrArg some (by kernel_rfl))
  t0 := Tryz.underlying0
  a0 := Tryz.isAgg0
  z0 := Tryz.sizeOf0
  v0 := Tryz.zeroValue0
  t3 := Tryz.underlying3
  a3 := Tryz.isAgg3
  z3 := Tryz.sizeOf3
  v3 := Tryz.zeroValue3
  t4 := Tryz.underlying4
  a4 := Tryz.isAgg4
  z4 := Tryz.sizeOf4
  v4 := Tryz.zeroValue4
  t5 := Tryz.underlying5
  a5 := Tryz.isAgg5
  z5 := Tryz.sizeOf5
  v5 := Tryz.zeroValue5
  t9 := Tryz.underlying9
  a9 := Tryz.isAgg9
  z9 := Tryz.sizeOf9
  v9 := Tryz.zeroValue9
  t20 := Tryz.underlying20
  a20 := Tryz.isAgg20
  z20 := Tryz.sizeOf20
  v20 := Tryz.zeroValue20
  t21 := Tryz.underlying21
  a21 := Tryz.isAgg21
  z21 := Tryz.sizeOf21
  v21 := Tryz.zeroValue21
  t37 := Tryz.underlying32
  a37 := Tryz.isAgg32
  z37 := Tryz.sizeOf32
  v37 := Tryz.zeroValue32
  t46 := Tryz.underlying157
  a46 := Tryz.isAgg157
  z46 := Tryz.sizeOf157
  v46 := Tryz.zeroValue157
  t51 := Tryz.underlying182
  a51 := Tryz.isAgg182
  z51 := Tryz.sizeOf182
  v51 := Tryz.zeroValue182
  t70 := Tryz.underlying202
  a70 := Tryz.isAgg202
  z70 := Tryz.sizeOf202
  v70 := Tryz.zeroValue202
  t72 := Tryz.underlying204
  a72 := Tryz.isAgg204
  z72 := Tryz.sizeOf204
  v72 := Tryz.zeroValue204
  t75 := Tryz.underlying207
  a75 := Tryz.isAgg207
  z75 := Tryz.sizeOf207
  v75 := Tryz.zeroValue207
  t76 := Tryz.underlying208
  a76 := Tryz.isAgg208
  z76 := Tryz.sizeOf208
  v76 := Tryz.zeroValue208
  t105 := Tryz.underlying152
  a105 := Tryz.isAgg152
  z105 := Tryz.sizeOf152
  v105 := Tryz.zeroValue152
  t119 := Tryz.underlying194
  a119 := Tryz.isAgg194
  z119 := Tryz.sizeOf194
  t127 := Tryz.underlying212
  a127 := Tryz.isAgg212
  z127 := Tryz.sizeOf212
  v127 := Tryz.zeroValue212
  t138 := Tryz.underlying196
  a138 := Tryz.isAgg196
  z138 := Tryz.sizeOf196
  v138 := Tryz.zeroValue196
  t139 := Tryz.underlying197
  a139 := Tryz.isAgg197
  z139 := Tryz.sizeOf197
  v139 := Tryz.zeroValue197
  t146 := Tryz.underlying183
  a146 := Tryz.isAgg183
  z146 := Tryz.sizeOf183
  v146 := Tryz.zeroValue183
  t164 := Tryz.underlying215
  a164 := Tryz.isAgg215
  z164 := Tryz.sizeOf215
  v164 := Tryz.zeroValue215
  g1 := by kernel_rfl
  g3 := by kernel_rfl
  g4 := by kernel_rfl }
theorem Tryz.Builder_Extra_155 : Builder.Extra Tryz.prog Tryz.lays155_ren := {
  sizeBuilder := by kernel_rfl
  liesBuilder := by kernel_rfl
  t5 := Tryz.underlying5
  a5 := Tryz.isAgg5
  z5 := Tryz.sizeOf5
  v5 := Tryz.zeroValue5
  infoByte := by kernel_rfl
  cellsByte := by kernel_rfl
  sizeByte := by kernel_rfl
  neB5 := by decide }
open Go.RowKit Go.Lib in
theorem Tryz.strings_ReplaceAll (s old new : ByteArray) (m : Int) (w : World) (hs : s.size < 4294967281) (hm : w.cell? ⟨0, 0, none⟩ = some (.int .i64 m)) (h1 : 1 ≤ old.size) (hlen : s.size + Lib.countB s old * new.size ≤ 140737488355328) :
    Calls Tryz.prog 280 #[.string s, .string old, .string new] w fun e w' =>
      e = .returned (.string ⟨(Lib.replaceAll s.data.toList old.data.toList new.data.toList).toArray⟩) ∧ Below w.heap.size w w' := Any.strings_ReplaceAll Tryz.lays155 Tryz.Builder_Extra_155 s old new m w hs hm h1 hlen
open Go.RowKit Go.Lib in
open Go.RowKit Go.Lib in
open Go.RowKit Go.Lib in
open Go.RowKit Go.Lib in
open Go.RowKit Go.Lib in
open Go.RowKit Go.Lib in
def Tryz.lays260_ren : Go.Shelf.Ren := ⟨fun | 260 => 274 | n => n, fun | 9 => 9 | 21 => 21 | 3 => 3 | 4 => 4 | 5 => 5 | 119 => 194 | 0 => 0 | 46 => 157 | 139 => 197 | 138 => 196 | n => n, fun | 3 => 1 | 4 => 2 | n => n⟩
theorem Tryz.lays260 : Go.Proofs.Lays.n260 Tryz.prog Tryz.lays260_ren := {
  mixed := by kernel_rfl
  f260 := Tryz.func274.trans (congrArg some (by kernel_rfl))
  t0 := Tryz.underlying0
  a0 := Tryz.isAgg0
  z0 := Tryz.sizeOf0
  v0 := Tryz.zeroValue0
  t3 := Tryz.underlying3
  a3 := Tryz.isAgg3
  z3 := Tryz.sizeOf3
  v3 := Tryz.zeroValue3
  t4 := Tryz.underlying4
  a4 := Tryz.isAgg4
  z4 := Tryz.sizeOf4
  v4 := Tryz.zeroValue4
  t5 := Tryz.underlying5
  a5 := Tryz.isAgg5
  z5 := Tryz.sizeOf5
  v5 := Tryz.zeroValue5
  t9 := Tryz.underlying9
  a9 := Tryz.isAgg9
  z9 := Tryz.sizeOf9
  v9 := Tryz.zeroValue9
  t21 := Tryz.underlying21
  a21 := Tryz.isAgg21
  z21 := Tryz.sizeOf21
  v21 := Tryz.zeroValue21
  t46 := Tryz.underlying157
  a46 := Tryz.isAgg157
  z46 := Tryz.sizeOf157
  v46 := Tryz.zeroValue157
  t119 := Tryz.underlying194
  a119 := Tryz.isAgg194
  z119 := Tryz.sizeOf194
  t138 := Tryz.underlying196
  a138 := Tryz.isAgg196
  z138 := Tryz.sizeOf196
  v138 := Tryz.zeroValue196
  t139 := Tryz.underlying197
  a139 := Tryz.isAgg197
  z139 := Tryz.sizeOf197
  v139 := Tryz.zeroValue197
  g3 := by kernel_rfl
  g4 := by kernel_rfl }
open Go.RowKit Go.Lib in
def Tryz.lays197_ren : Go.Shelf.Ren := ⟨fun | 197 => 253 | 260 => 274 | n => n, fun | 9 => 9 | 21 => 21 | 3 => 3 | 4 => 4 | 5 => 5 | 105 => 152 | 119 => 194 | 0 => 0 | 46 => 157 | 139 => 197 | 138 => 196 | n => n, fun | 3 => 1 | 4 => 2 | n => n⟩
theorem Tryz.lays197 : Go.Proofs.Lays.n197 Tryz.prog Tryz.lays197_ren := {
  mixed := by kernel_rfl
  f197 := Tryz.func253.trans (congrArg some (by kernel_rfl))
  f260 := Tryz.func274.trans (congrArg some (by kernel_rfl))
  t0 := Tryz.underlying0
  a0 := Tryz.isAgg0
  z0 := Tryz.sizeOf0
  v0 := Tryz.zeroValue0
  t3 := Tryz.underlying3
  a3 := Tryz.isAgg3
  z3 := Tryz.sizeOf3
  v3 := Tryz.zeroValue3
  t4 := Tryz.underlying4
  a4 := Tryz.isAgg4
  z4 := Tryz.sizeOf4
  v4 := Tryz.zeroValue4
  t5 := Tryz.underlying5
  a5 := Tryz.isAgg5
  z5 := Tryz.sizeOf5
  v5 := Tryz.zeroValue5
  t9 := Tryz.underlying9
  a9 := Tryz.isAgg9
  z9 := Tryz.sizeOf9
  v9 := Tryz.zeroValue9
  t21 := Tryz.underlying21
  a21 := Tryz.isAgg21
  z21 := Tryz.sizeOf21
  v21 := Tryz.zeroValue21
  t46 := Tryz.underlying157
  a46 := Tryz.isAgg157
  z46 := Tryz.sizeOf157
  v46 := Tryz.zeroValue157
  t105 := Tryz.underlying152
  a105 := Tryz.isAgg152
  z105 := Tryz.sizeOf152
  v105 := Tryz.zeroValue152
  t119 := Tryz.underlying194
  a119 := Tryz.isAgg194
  z119 := Tryz.sizeOf194
  t138 := Tryz.underlying196
  a138 := Tryz.isAgg196
  z138 := Tryz.sizeOf196
  v138 := Tryz.zeroValue196
  t139 := Tryz.underlying197
  a139 := Tryz.isAgg197
  z139 := Tryz.sizeOf197
  v139 := Tryz.zeroValue197
  g3 := by kernel_rfl
  g4 := by kernel_rfl }
open Go.RowKit Go.Lib in
theorem Tryz.utf8_DecodeRuneInString (s : ByteArray) (w : World) (hT : Lib.Utf8Tabs 1 2 w) :
    Calls Tryz.prog 253 #[.string s] w fun e w' => e = .returned (.tuple #[.int .i32 (Lib.decodeGo s).1, .int .i64 (Lib.decodeGo s).2]) ∧ Below w.heap.size w w' := Any.utf8_DecodeRuneInString Tryz.lays197 s w hT
end Go.Proofs
