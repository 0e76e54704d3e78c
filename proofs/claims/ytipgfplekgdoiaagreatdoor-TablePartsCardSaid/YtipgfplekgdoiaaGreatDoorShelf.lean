/- Contracts of the library. -/
import Derived.Shelf.Strings.OnBuilder
import Derived.Shelf.Small.Strs
import Derived.Shelf.Strings.Search1
import Derived.Shelf.Strings.Search2
import Derived.Shelf.Sort.Plain
import Derived.Shelf.Strings.AsciiSet
import Derived.Shelf.Strings.IndexAnyAll
import Derived.Shelf.Slices.CompactS
import Derived.Shelf.Slices.In.SortNone
import Derived.Test.YtipgfplekgdoiaaGreatDoorProg
namespace Go.Proofs
open Go.Shelf
def Tryz.lays156_ren:Go.Shelf.Ren:=⟨fun | 156=>141 | 165=>179 | 166=>180 | 169=>181 | 240=>213 | 241=>214 | 276=>239 | 277=>240 | n=>n,fun | 31=>34 | 9=>9 | 3=>3 | 4=>4 | 0=>0 | 20=>20 | 72=>186 | 76=>190 | 70=>184 | 37=>128 | 75=>189 | 127=>212 | 164=>232 | 5=>5 | 80=>192 | n=>n,fun | n=>n⟩
theorem Tryz.lays156:Go.Proofs.Lays.n156 Tryz.prog Tryz.lays156_ren:={
  mixed:=by kernel_rfl
  f156:=Tryz.func141.trans (congrArg some (by kernel_rfl))
  f165:=Tryz.func179.trans (congrArg some (by kernel_rfl))
  f166:=Tryz.func180.trans (congrArg some (by kernel_rfl))
  f169:=Tryz.func181.trans (congrArg some (by kernel_rfl))
  f240:=Tryz.func213.trans (congrArg some (by kernel_rfl))
  f241:=Tryz.func214.trans (congrArg some (by kernel_rfl))
  f276:=Tryz.func239.trans (congrArg some (by kernel_rfl))
  f277:=Tryz.func240.trans (congrArg some (by kernel_rfl))
  t0:=Tryz.underlying0
  a0:=Tryz.isAgg0
  z0:=Tryz.sizeOf0
  v0:=Tryz.zeroValue0
  t3:=Tryz.underlying3
  a3:=Tryz.isAgg3
  z3:=Tryz.sizeOf3
  v3:=Tryz.zeroValue3
  t4:=Tryz.underlying4
  a4:=Tryz.isAgg4
  z4:=Tryz.sizeOf4
  v4:=Tryz.zeroValue4
  t9:=Tryz.underlying9
  a9:=Tryz.isAgg9
  z9:=Tryz.sizeOf9
  v9:=Tryz.zeroValue9
  t20:=Tryz.underlying20
  a20:=Tryz.isAgg20
  z20:=Tryz.sizeOf20
  v20:=Tryz.zeroValue20
  t31:=Tryz.underlying34
  a31:=Tryz.isAgg34
  z31:=Tryz.sizeOf34
  v31:=Tryz.zeroValue34
  t37:=Tryz.underlying128
  a37:=Tryz.isAgg128
  z37:=Tryz.sizeOf128
  v37:=Tryz.zeroValue128
  t70:=Tryz.underlying184
  a70:=Tryz.isAgg184
  z70:=Tryz.sizeOf184
  v70:=Tryz.zeroValue184
  t72:=Tryz.underlying186
  a72:=Tryz.isAgg186
  z72:=Tryz.sizeOf186
  v72:=Tryz.zeroValue186
  t75:=Tryz.underlying189
  a75:=Tryz.isAgg189
  z75:=Tryz.sizeOf189
  v75:=Tryz.zeroValue189
  t76:=Tryz.underlying190
  a76:=Tryz.isAgg190
  z76:=Tryz.sizeOf190
  v76:=Tryz.zeroValue190
  t127:=Tryz.underlying212
  a127:=Tryz.isAgg212
  z127:=Tryz.sizeOf212
  v127:=Tryz.zeroValue212
  t164:=Tryz.underlying232
  a164:=Tryz.isAgg232
  z164:=Tryz.sizeOf232
  v164:=Tryz.zeroValue232 }
theorem Tryz.Builder_Extra_156:Builder.Extra Tryz.prog Tryz.lays156_ren:={
  sizeBuilder:=by kernel_rfl
  liesBuilder:=by kernel_rfl
  t5:=Tryz.underlying5
  a5:=Tryz.isAgg5
  z5:=Tryz.sizeOf5
  v5:=Tryz.zeroValue5
  infoByte:=by kernel_rfl
  cellsByte:=by kernel_rfl
  sizeByte:=by kernel_rfl
  neB5:=by decide }
open Go.RowKit in
theorem Tryz.strings_Join_none (a : Option Addr) (c : Nat) (sep : ByteArray) (w : World) :
    Calls Tryz.prog 141 #[.slice a 0 c,.string sep] w fun e w'=>e=.returned (.string ⟨#[]⟩)∧w'=w:=Any.strings_Join_none Tryz.lays156 Tryz.Builder_Extra_156 a c sep w
open Go.RowKit in
theorem Tryz.strings_Join (bk o c : Nat) (xs : List ByteArray) (sep : ByteArray) (w : World) (hcells : ∀ (j : Nat) x, xs[j]? = some x → w.cell? ⟨bk, o + j, none⟩ = some (.string x)) (hbk : bk < w.heap.size) (hN : xs.length ≤ 140737488355328) (hcap : xs.length ≤ c) (hlen : (Lib.join (xs.map (·.data.toList)) sep.data.toList).length ≤ 140737488355328) :
    Calls Tryz.prog 141 #[.slice (some ⟨bk,o,none⟩) xs.length c,.string sep] w fun e w'=>e=.returned (.string ⟨(Lib.join (xs.map (·.data.toList)) sep.data.toList).toArray⟩)∧Below w.heap.size w w':=Any.strings_Join Tryz.lays156 Tryz.Builder_Extra_156 bk o c xs sep w hcells hbk hN hcap hlen
def Tryz.lays137_ren:Go.Shelf.Ren:=⟨fun | 137=>236 | 217=>199 | 266=>234 | n=>n,fun | 9=>9 | 5=>5 | 3=>3 | n=>n,fun | n=>n⟩
theorem Tryz.lays137:Go.Proofs.Lays.n137 Tryz.prog Tryz.lays137_ren:={
  mixed:=by kernel_rfl
  f137:=Tryz.func236.trans (congrArg some (by kernel_rfl))
  f217:=Tryz.func199.trans (congrArg some (by kernel_rfl))
  f266:=Tryz.func234.trans (congrArg some (by kernel_rfl))
  t3:=Tryz.underlying3
  a3:=Tryz.isAgg3
  z3:=Tryz.sizeOf3
  v3:=Tryz.zeroValue3
  t5:=Tryz.underlying5
  a5:=Tryz.isAgg5
  z5:=Tryz.sizeOf5
  v5:=Tryz.zeroValue5
  t9:=Tryz.underlying9
  a9:=Tryz.isAgg9
  z9:=Tryz.sizeOf9
  v9:=Tryz.zeroValue9 }
open Go.RowKit in
theorem Tryz.strings_IndexByte (s : ByteArray) (c : Int) (w : World) :
    Calls Tryz.prog 236 #[.string s,.int .u8 c] w fun e w'=>e=.returned (.int .i64 (Lib.indexByte s.data.toList c.toNat.toUInt8))∧w'=w:=Any.strings_IndexByte Tryz.lays137 s c w
def Tryz.lays217_ren:Go.Shelf.Ren:=⟨fun | 217=>199 | 266=>234 | n=>n,fun | 9=>9 | 5=>5 | 3=>3 | n=>n,fun | n=>n⟩
theorem Tryz.lays217:Go.Proofs.Lays.n217 Tryz.prog Tryz.lays217_ren:={
  mixed:=by kernel_rfl
  f217:=Tryz.func199.trans (congrArg some (by kernel_rfl))
  f266:=Tryz.func234.trans (congrArg some (by kernel_rfl))
  t3:=Tryz.underlying3
  a3:=Tryz.isAgg3
  z3:=Tryz.sizeOf3
  v3:=Tryz.zeroValue3
  t5:=Tryz.underlying5
  a5:=Tryz.isAgg5
  z5:=Tryz.sizeOf5
  v5:=Tryz.zeroValue5
  t9:=Tryz.underlying9
  a9:=Tryz.isAgg9
  z9:=Tryz.sizeOf9
  v9:=Tryz.zeroValue9 }
open Go.RowKit Go.Lib in
theorem Tryz.stringslite_IndexByte (s : ByteArray) (c : Int) (w : World) :
    Calls Tryz.prog 199 #[.string s,.int .u8 c] w fun e w'=>e=.returned (.int .i64 (Lib.indexByte s.data.toList c.toNat.toUInt8))∧w'=w:=Any.stringslite_IndexByte Tryz.lays217 s c w
def Tryz.lays219_ren:Go.Shelf.Ren:=⟨fun | 219=>159 | 217=>199 | 225=>200 | 224=>201 | 267=>202 | 266=>234 | 314=>235 | n=>n,fun | 9=>9 | 3=>3 | 4=>4 | 5=>5 | 46=>144 | 146=>226 | 51=>181 | n=>n,fun | 1=>0 | n=>n⟩
theorem Tryz.lays219:Go.Proofs.Lays.n219 Tryz.prog Tryz.lays219_ren:={
  mixed:=by kernel_rfl
  f217:=Tryz.func199.trans (congrArg some (by kernel_rfl))
  f219:=Tryz.func159.trans (congrArg some (by kernel_rfl))
  f224:=Tryz.func201.trans (congrArg some (by kernel_rfl))
  f225:=Tryz.func200.trans (congrArg some (by kernel_rfl))
  f266:=Tryz.func234.trans (congrArg some (by kernel_rfl))
  f267:=Tryz.func202.trans (congrArg some (by kernel_rfl))
  f314:=Tryz.func235.trans (congrArg some (by kernel_rfl))
  t3:=Tryz.underlying3
  a3:=Tryz.isAgg3
  z3:=Tryz.sizeOf3
  v3:=Tryz.zeroValue3
  t4:=Tryz.underlying4
  a4:=Tryz.isAgg4
  z4:=Tryz.sizeOf4
  v4:=Tryz.zeroValue4
  t5:=Tryz.underlying5
  a5:=Tryz.isAgg5
  z5:=Tryz.sizeOf5
  v5:=Tryz.zeroValue5
  t9:=Tryz.underlying9
  a9:=Tryz.isAgg9
  z9:=Tryz.sizeOf9
  v9:=Tryz.zeroValue9
  t46:=Tryz.underlying144
  a46:=Tryz.isAgg144
  z46:=Tryz.sizeOf144
  v46:=Tryz.zeroValue144
  t51:=Tryz.underlying181
  a51:=Tryz.isAgg181
  z51:=Tryz.sizeOf181
  v51:=Tryz.zeroValue181
  t146:=Tryz.underlying226
  a146:=Tryz.isAgg226
  z146:=Tryz.sizeOf226
  v146:=Tryz.zeroValue226
  g1:=by kernel_rfl }
open Go.RowKit Go.Lib in
theorem Tryz.stringslite_Index_one (s : ByteArray) (c : UInt8) (w : World) :
    Calls Tryz.prog 159 #[.string s,.string ⟨#[c]⟩] w fun e w'=>e=.returned (.int .i64 (Lib.indexByte s.data.toList c))∧w'=w:=Any.stringslite_Index_one Tryz.lays219 s c w
def Tryz.lays190_ren:Go.Shelf.Ren:=⟨fun | 190=>105 | 125=>138 | 258=>137 | 128=>175 | 129=>176 | 302=>166 | 303=>167 | 304=>168 | 305=>169 | 306=>170 | 307=>171 | 308=>172 | 309=>173 | 310=>174 | 333=>207 | 329=>208 | 330=>209 | 334=>210 | 335=>211 | 336=>212 | 344=>238 | n=>n,fun | 31=>34 | 9=>9 | 3=>3 | 46=>144 | 0=>0 | 51=>181 | 53=>183 | 4=>4 | 183=>175 | 182=>174 | 131=>29 | 5=>5 | 218=>206 | 222=>210 | 228=>229 | 229=>230 | n=>n,fun | n=>n⟩
theorem Tryz.lays190:Go.Proofs.Lays.n190 Tryz.prog Tryz.lays190_ren:={
  mixed:=by kernel_rfl
  f125:=Tryz.func138.trans (congrArg some (by kernel_rfl))
  f128:=Tryz.func175.trans (congrArg some (by kernel_rfl))
  f129:=Tryz.func176.trans (congrArg some (by kernel_rfl))
  f190:=Tryz.func105.trans (congrArg some (by kernel_rfl))
  f258:=Tryz.func137.trans (congrArg some (by kernel_rfl))
  f302:=Tryz.func166.trans (congrArg some (by kernel_rfl))
  f303:=Tryz.func167.trans (congrArg some (by kernel_rfl))
  f304:=Tryz.func168.trans (congrArg some (by kernel_rfl))
  f305:=Tryz.func169.trans (congrArg some (by kernel_rfl))
  f306:=Tryz.func170.trans (congrArg some (by kernel_rfl))
  f307:=Tryz.func171.trans (congrArg some (by kernel_rfl))
  f308:=Tryz.func172.trans (congrArg some (by kernel_rfl))
  f309:=Tryz.func173.trans (congrArg some (by kernel_rfl))
  f310:=Tryz.func174.trans (congrArg some (by kernel_rfl))
  f329:=Tryz.func208.trans (congrArg some (by kernel_rfl))
  f330:=Tryz.func209.trans (congrArg some (by kernel_rfl))
  f333:=Tryz.func207.trans (congrArg some (by kernel_rfl))
  f334:=Tryz.func210.trans (congrArg some (by kernel_rfl))
  f335:=Tryz.func211.trans (congrArg some (by kernel_rfl))
  f336:=Tryz.func212.trans (congrArg some (by kernel_rfl))
  f344:=Tryz.func238.trans (congrArg some (by kernel_rfl))
  t0:=Tryz.underlying0
  a0:=Tryz.isAgg0
  z0:=Tryz.sizeOf0
  v0:=Tryz.zeroValue0
  t3:=Tryz.underlying3
  a3:=Tryz.isAgg3
  z3:=Tryz.sizeOf3
  v3:=Tryz.zeroValue3
  t4:=Tryz.underlying4
  a4:=Tryz.isAgg4
  z4:=Tryz.sizeOf4
  v4:=Tryz.zeroValue4
  t5:=Tryz.underlying5
  a5:=Tryz.isAgg5
  z5:=Tryz.sizeOf5
  v5:=Tryz.zeroValue5
  t9:=Tryz.underlying9
  a9:=Tryz.isAgg9
  z9:=Tryz.sizeOf9
  v9:=Tryz.zeroValue9
  t31:=Tryz.underlying34
  a31:=Tryz.isAgg34
  z31:=Tryz.sizeOf34
  v31:=Tryz.zeroValue34
  t46:=Tryz.underlying144
  a46:=Tryz.isAgg144
  z46:=Tryz.sizeOf144
  v46:=Tryz.zeroValue144
  t51:=Tryz.underlying181
  a51:=Tryz.isAgg181
  z51:=Tryz.sizeOf181
  v51:=Tryz.zeroValue181
  t53:=Tryz.underlying183
  a53:=Tryz.isAgg183
  z53:=Tryz.sizeOf183
  v53:=Tryz.zeroValue183
  t131:=Tryz.underlying29
  a131:=Tryz.isAgg29
  z131:=Tryz.sizeOf29
  v131:=Tryz.zeroValue29
  t182:=Tryz.underlying174
  a182:=Tryz.isAgg174
  z182:=Tryz.sizeOf174
  v182:=Tryz.zeroValue174
  t183:=Tryz.underlying175
  a183:=Tryz.isAgg175
  z183:=Tryz.sizeOf175
  v183:=Tryz.zeroValue175
  t218:=Tryz.underlying206
  a218:=Tryz.isAgg206
  z218:=Tryz.sizeOf206
  v218:=Tryz.zeroValue206
  t222:=Tryz.underlying210
  a222:=Tryz.isAgg210
  z222:=Tryz.sizeOf210
  v222:=Tryz.zeroValue210
  t228:=Tryz.underlying229
  a228:=Tryz.isAgg229
  z228:=Tryz.sizeOf229
  v228:=Tryz.zeroValue229
  t229:=Tryz.underlying230
  a229:=Tryz.isAgg230
  z229:=Tryz.sizeOf230
  v229:=Tryz.zeroValue230 }
open Go.Sort Go.RowKit in
theorem Tryz.slices_Sort_string (blk off cap : Nat) (ss : List (List UInt8)) (w : World) (hH : Holds encStr w blk off ss.toArray) (hblk : blk < w.heap.size) (hsz : ss.length < 4611686018427387904) :
    Calls Tryz.prog 105 #[.slice (some ⟨blk,off,none⟩) ss.length cap] w fun e w' =>
      e=.returned (.tuple #[])∧∃ n os,w'=grow (putRow encStr (Sort.ahead w n) blk off (ss.mergeSort fun x y=>decide (x≤y)).toArray) os:=Any.slices_Sort_string Tryz.lays190 blk off cap ss w hH hblk hsz
def Tryz.lays153_ren:Go.Shelf.Ren:=⟨fun | 153=>164 | 152=>205 | 226=>206 | 227=>161 | 228=>203 | 137=>236 | 119=>237 | 224=>201 | 225=>200 | 217=>199 | 266=>234 | n=>n,fun | 9=>9 | 3=>3 | 4=>4 | 5=>5 | 21=>21 | 117=>169 | 116=>168 | 0=>0 | 46=>144 | 124=>172 | n=>n,fun | n=>n⟩
theorem Tryz.lays153:Go.Proofs.Lays.n153 Tryz.prog Tryz.lays153_ren:={
  mixed:=by kernel_rfl
  f119:=Tryz.func237.trans (congrArg some (by kernel_rfl))
  f137:=Tryz.func236.trans (congrArg some (by kernel_rfl))
  f152:=Tryz.func205.trans (congrArg some (by kernel_rfl))
  f153:=Tryz.func164.trans (congrArg some (by kernel_rfl))
  f217:=Tryz.func199.trans (congrArg some (by kernel_rfl))
  f224:=Tryz.func201.trans (congrArg some (by kernel_rfl))
  f225:=Tryz.func200.trans (congrArg some (by kernel_rfl))
  f226:=Tryz.func206.trans (congrArg some (by kernel_rfl))
  f227:=Tryz.func161.trans (congrArg some (by kernel_rfl))
  f228:=Tryz.func203.trans (congrArg some (by kernel_rfl))
  f266:=Tryz.func234.trans (congrArg some (by kernel_rfl))
  t0:=Tryz.underlying0
  a0:=Tryz.isAgg0
  z0:=Tryz.sizeOf0
  v0:=Tryz.zeroValue0
  t3:=Tryz.underlying3
  a3:=Tryz.isAgg3
  z3:=Tryz.sizeOf3
  v3:=Tryz.zeroValue3
  t4:=Tryz.underlying4
  a4:=Tryz.isAgg4
  z4:=Tryz.sizeOf4
  v4:=Tryz.zeroValue4
  t5:=Tryz.underlying5
  a5:=Tryz.isAgg5
  z5:=Tryz.sizeOf5
  v5:=Tryz.zeroValue5
  t9:=Tryz.underlying9
  a9:=Tryz.isAgg9
  z9:=Tryz.sizeOf9
  v9:=Tryz.zeroValue9
  t21:=Tryz.underlying21
  a21:=Tryz.isAgg21
  z21:=Tryz.sizeOf21
  v21:=Tryz.zeroValue21
  t46:=Tryz.underlying144
  a46:=Tryz.isAgg144
  z46:=Tryz.sizeOf144
  v46:=Tryz.zeroValue144
  t116:=Tryz.underlying168
  a116:=Tryz.isAgg168
  z116:=Tryz.sizeOf168
  t117:=Tryz.underlying169
  a117:=Tryz.isAgg169
  z117:=Tryz.sizeOf169
  v117:=Tryz.zeroValue169
  t124:=Tryz.underlying172
  a124:=Tryz.isAgg172
  z124:=Tryz.sizeOf172
  v124:=Tryz.zeroValue172 }
def Tryz.lays227_ren:Go.Shelf.Ren:=⟨fun | 227=>161 | n=>n,fun | 9=>9 | 116=>168 | 4=>4 | 0=>0 | 3=>3 | 5=>5 | n=>n,fun | n=>n⟩
theorem Tryz.lays227:Go.Proofs.Lays.n227 Tryz.prog Tryz.lays227_ren:={
  mixed:=by kernel_rfl
  f227:=Tryz.func161.trans (congrArg some (by kernel_rfl))
  t0:=Tryz.underlying0
  a0:=Tryz.isAgg0
  z0:=Tryz.sizeOf0
  v0:=Tryz.zeroValue0
  t3:=Tryz.underlying3
  a3:=Tryz.isAgg3
  z3:=Tryz.sizeOf3
  v3:=Tryz.zeroValue3
  t4:=Tryz.underlying4
  a4:=Tryz.isAgg4
  z4:=Tryz.sizeOf4
  v4:=Tryz.zeroValue4
  t5:=Tryz.underlying5
  a5:=Tryz.isAgg5
  z5:=Tryz.sizeOf5
  v5:=Tryz.zeroValue5
  t9:=Tryz.underlying9
  a9:=Tryz.isAgg9
  z9:=Tryz.sizeOf9
  v9:=Tryz.zeroValue9
  t116:=Tryz.underlying168
  a116:=Tryz.isAgg168
  z116:=Tryz.sizeOf168 }
open Go.RowKit Go.Lib in
theorem Tryz.strings_makeASCIISet (hv116 : ∀ w, (zeroValue 168).run Tryz.prog w = .ok (.agg (Array.replicate 256 (.bool false))) w) (chars : ByteArray) (w : World) (hs : chars.size < 4294967281) (hascii : ∀ (j : Nat) b, chars.data.toList[j]? = some b → b.toNat < 128) :
    Calls Tryz.prog 161 #[.string chars] w fun e w'=>e=.returned (.tuple #[.agg (Lib.setCells chars.data.toList),.bool true])∧w'=w.alloc (.cells (Lib.setCells chars.data.toList) 168):=Any.strings_makeASCIISet Tryz.lays227 hv116 (by kernel_rfl) chars w hs hascii
def Tryz.lays228_ren:Go.Shelf.Ren:=⟨fun | 228=>203 | n=>n,fun | 124=>172 | 5=>5 | 4=>4 | 0=>0 | 116=>168 | n=>n,fun | n=>n⟩
theorem Tryz.lays228:Go.Proofs.Lays.n228 Tryz.prog Tryz.lays228_ren:={
  mixed:=by kernel_rfl
  f228:=Tryz.func203.trans (congrArg some (by kernel_rfl))
  t0:=Tryz.underlying0
  a0:=Tryz.isAgg0
  z0:=Tryz.sizeOf0
  v0:=Tryz.zeroValue0
  t4:=Tryz.underlying4
  a4:=Tryz.isAgg4
  z4:=Tryz.sizeOf4
  v4:=Tryz.zeroValue4
  t5:=Tryz.underlying5
  a5:=Tryz.isAgg5
  z5:=Tryz.sizeOf5
  v5:=Tryz.zeroValue5
  t116:=Tryz.underlying168
  a116:=Tryz.isAgg168
  z116:=Tryz.sizeOf168
  t124:=Tryz.underlying172
  a124:=Tryz.isAgg172
  z124:=Tryz.sizeOf172
  v124:=Tryz.zeroValue172 }
open Go.RowKit Go.Lib in
theorem Tryz.asciiSet_contains (b : Nat) (x : UInt8) (v : Bool) (w : World) (hc : w.cell? ⟨b, x.toNat, none⟩ = some (.bool v)) :
    Calls Tryz.prog 203 #[.pointer (some ⟨b,0,none⟩),.int .u8 x.toNat] w fun e w'=>e=.returned (.bool v)∧w'=w:=Any.asciiSet_contains Tryz.lays228 b x v w hc
open Go.RowKit Go.Lib in
theorem Tryz.strings_IndexAny (hv116 : ∀ w, (zeroValue 168).run Tryz.prog w = .ok (.agg (Array.replicate 256 (.bool false))) w) (s chars : ByteArray) (w : World) (hs : s.size < 4294967281) (hcs : chars.size < 4294967281) (has : ∀ (j : Nat) b, s.data.toList[j]? = some b → b.toNat < 128) (hac : ∀ (j : Nat) b, chars.data.toList[j]? = some b → b.toNat < 128) :
    Calls Tryz.prog 164 #[.string s,.string chars] w fun e w'=>e=.returned (.int .i64 (Lib.indexAny s.data.toList chars.data.toList))∧Below w.heap.size w w':=Any.strings_IndexAny Tryz.lays153 hv116 (by kernel_rfl) s chars w hs hcs has hac
def Tryz.lays194_ren:Go.Shelf.Ren:=⟨fun | 194=>106 | n=>n,fun | 31=>34 | 9=>9 | 3=>3 | 4=>4 | 0=>0 | n=>n,fun | n=>n⟩
theorem Tryz.lays194:Go.Proofs.Lays.n194 Tryz.prog Tryz.lays194_ren:={
  mixed:=by kernel_rfl
  f194:=Tryz.func106.trans (congrArg some (by kernel_rfl))
  t0:=Tryz.underlying0
  a0:=Tryz.isAgg0
  z0:=Tryz.sizeOf0
  v0:=Tryz.zeroValue0
  t3:=Tryz.underlying3
  a3:=Tryz.isAgg3
  z3:=Tryz.sizeOf3
  v3:=Tryz.zeroValue3
  t4:=Tryz.underlying4
  a4:=Tryz.isAgg4
  z4:=Tryz.sizeOf4
  v4:=Tryz.zeroValue4
  t9:=Tryz.underlying9
  a9:=Tryz.isAgg9
  z9:=Tryz.sizeOf9
  v9:=Tryz.zeroValue9
  t31:=Tryz.underlying34
  a31:=Tryz.isAgg34
  z31:=Tryz.sizeOf34
  v31:=Tryz.zeroValue34 }
open Go.RowKit Go.Lib Go.Sort in
theorem Tryz.slices_Compact_string (blk off cap : Nat) (zs : List (List UInt8)) (w : World) (hH : Holds encStr w blk off zs.toArray) (hsz : zs.length ≤ 9223372036854775807) (hcap : zs.length ≤ cap) :
    Calls Tryz.prog 106 #[.slice (some ⟨blk,off,none⟩) zs.length cap] w fun e w'=>e=.returned (.slice (some ⟨blk,off,none⟩) (Lib.compact zs).length cap)∧∃ q,w'=putRow encStr (Sort.ahead w q) blk off (Lib.compact zs++List.replicate (zs.length - (Lib.compact zs).length) []).toArray:=Any.slices_Compact_string Tryz.lays194 blk off cap zs w hH hsz hcap
open Go.RowKit Go.Lib Go.Sort in
theorem Tryz.slices_Compact_string_empty (a : Option Addr) (cap : Nat) (w : World) :
    Calls Tryz.prog 106 #[.slice a 0 cap] w fun e w'=>e=.returned (.slice a 0 cap)∧w'=w:=Any.slices_Compact_string_empty Tryz.lays194 a cap w
open Go.RowKit Go.Sort in
theorem Tryz.slices_Sort_string_none (p : Option Addr) (cap : Nat) (w : World) :
    Calls Tryz.prog 105 #[.slice p 0 cap] w fun e w'=>e=.returned (.tuple #[])∧w'=w:=Any.slices_Sort_string_none Tryz.lays190 p cap w
end Go.Proofs
