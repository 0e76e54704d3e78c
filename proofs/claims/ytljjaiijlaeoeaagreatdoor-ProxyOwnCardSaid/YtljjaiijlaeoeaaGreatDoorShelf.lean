/- Contracts of the library. -/
import Derived.Shelf.Strings.OnBuilder
import Derived.Shelf.Small.Strs
import Derived.Shelf.Strconv.Itoa3
import Derived.Shelf.Strings.Search1
import Derived.Shelf.Strings.Search2
import Derived.Shelf.Sort.Plain
import Derived.Shelf.Strings.AsciiSet
import Derived.Shelf.Strings.IndexAnyAll
import Derived.Shelf.Slices.CompactS
import Derived.Shelf.Slices.In.SortNone
import Derived.Test.YtljjaiijlaeoeaaGreatDoorProg
namespace Go.Proofs
open Go.Shelf
def Tryz.lays156_ren:Go.Shelf.Ren:=⟨fun | 156=>214 | 165=>274 | 166=>215 | 169=>218 | 240=>275 | 241=>309 | 276=>310 | 277=>337 | n=>n,fun | 31=>45 | 9=>9 | 3=>3 | 4=>4 | 0=>0 | 20=>20 | 72=>294 | 76=>295 | 70=>292 | 37=>206 | 75=>98 | 127=>337 | 164=>150 | 5=>5 | 80=>297 | n=>n,fun | n=>n⟩
theorem Tryz.lays156:Go.Proofs.Lays.n156 Tryz.prog Tryz.lays156_ren:={
  mixed:=by kernel_rfl
  f156:=Tryz.func214.trans (congrArg some (by kernel_rfl))
  f165:=Tryz.func274.trans (congrArg some (by kernel_rfl))
  f166:=Tryz.func215.trans (congrArg some (by kernel_rfl))
  f169:=Tryz.func218.trans (congrArg some (by kernel_rfl))
  f240:=Tryz.func275.trans (congrArg some (by kernel_rfl))
  f241:=Tryz.func309.trans (congrArg some (by kernel_rfl))
  f276:=Tryz.func310.trans (congrArg some (by kernel_rfl))
  f277:=Tryz.func337.trans (congrArg some (by kernel_rfl))
  t0:=Tryz.underlying0
  a0:=Tryz.isAgg0
  z0:=Tryz.sizeOf0
  v0:=Tryz.zeroValue0
  t3:=Tryz.underlying3
  a3:=Tryz.isAgg3
  z3:=Tryz.sizeOf3
  v3:=Tryz.zeroValue3
  t4:=Tryz.underlying4
  a4:=Tryz.isAgg4
  z4:=Tryz.sizeOf4
  v4:=Tryz.zeroValue4
  t9:=Tryz.underlying9
  a9:=Tryz.isAgg9
  z9:=Tryz.sizeOf9
  v9:=Tryz.zeroValue9
  t20:=Tryz.underlying20
  a20:=Tryz.isAgg20
  z20:=Tryz.sizeOf20
  v20:=Tryz.zeroValue20
  t31:=Tryz.underlying45
  a31:=Tryz.isAgg45
  z31:=Tryz.sizeOf45
  v31:=Tryz.zeroValue45
  t37:=Tryz.underlying206
  a37:=Tryz.isAgg206
  z37:=Tryz.sizeOf206
  v37:=Tryz.zeroValue206
  t70:=Tryz.underlying292
  a70:=Tryz.isAgg292
  z70:=Tryz.sizeOf292
  v70:=Tryz.zeroValue292
  t72:=Tryz.underlying294
  a72:=Tryz.isAgg294
  z72:=Tryz.sizeOf294
  v72:=Tryz.zeroValue294
  t75:=Tryz.underlying98
  a75:=Tryz.isAgg98
  z75:=Tryz.sizeOf98
  v75:=Tryz.zeroValue98
  t76:=Tryz.underlying295
  a76:=Tryz.isAgg295
  z76:=Tryz.sizeOf295
  v76:=Tryz.zeroValue295
  t127:=Tryz.underlying337
  a127:=Tryz.isAgg337
  z127:=Tryz.sizeOf337
  v127:=Tryz.zeroValue337
  t164:=Tryz.underlying150
  a164:=Tryz.isAgg150
  z164:=Tryz.sizeOf150
  v164:=Tryz.zeroValue150 }
theorem Tryz.Builder_Extra_156:Builder.Extra Tryz.prog Tryz.lays156_ren:={
  sizeBuilder:=by kernel_rfl
  liesBuilder:=by kernel_rfl
  t5:=Tryz.underlying5
  a5:=Tryz.isAgg5
  z5:=Tryz.sizeOf5
  v5:=Tryz.zeroValue5
  infoByte:=by kernel_rfl
  cellsByte:=by kernel_rfl
  sizeByte:=by kernel_rfl
  neB5:=by decide }
open Go.RowKit in
theorem Tryz.strings_Join_none (a : Option Addr) (c : Nat) (sep : ByteArray) (w : World) :
    Calls Tryz.prog 214 #[.slice a 0 c,.string sep] w fun e w'=>e=.returned (.string ⟨#[]⟩)∧w'=w:=Any.strings_Join_none Tryz.lays156 Tryz.Builder_Extra_156 a c sep w
open Go.RowKit in
theorem Tryz.strings_Join (bk o c : Nat) (xs : List ByteArray) (sep : ByteArray) (w : World) (hcells : ∀ (j : Nat) x, xs[j]? = some x → w.cell? ⟨bk, o + j, none⟩ = some (.string x)) (hbk : bk < w.heap.size) (hN : xs.length ≤ 140737488355328) (hcap : xs.length ≤ c) (hlen : (Lib.join (xs.map (·.data.toList)) sep.data.toList).length ≤ 140737488355328) :
    Calls Tryz.prog 214 #[.slice (some ⟨bk,o,none⟩) xs.length c,.string sep] w fun e w'=>e=.returned (.string ⟨(Lib.join (xs.map (·.data.toList)) sep.data.toList).toArray⟩)∧Below w.heap.size w w':=Any.strings_Join Tryz.lays156 Tryz.Builder_Extra_156 bk o c xs sep w hcells hbk hN hcap hlen
def Tryz.lays137_ren:Go.Shelf.Ren:=⟨fun | 137=>212 | 217=>273 | 266=>308 | n=>n,fun | 9=>9 | 5=>5 | 3=>3 | n=>n,fun | n=>n⟩
theorem Tryz.lays137:Go.Proofs.Lays.n137 Tryz.prog Tryz.lays137_ren:={
  mixed:=by kernel_rfl
  f137:=Tryz.func212.trans (congrArg some (by kernel_rfl))
  f217:=Tryz.func273.trans (congrArg some (by kernel_rfl))
  f266:=Tryz.func308.trans (congrArg some (by kernel_rfl))
  t3:=Tryz.underlying3
  a3:=Tryz.isAgg3
  z3:=Tryz.sizeOf3
  v3:=Tryz.zeroValue3
  t5:=Tryz.underlying5
  a5:=Tryz.isAgg5
  z5:=Tryz.sizeOf5
  v5:=Tryz.zeroValue5
  t9:=Tryz.underlying9
  a9:=Tryz.isAgg9
  z9:=Tryz.sizeOf9
  v9:=Tryz.zeroValue9 }
open Go.RowKit in
theorem Tryz.strings_IndexByte (s : ByteArray) (c : Int) (w : World) :
    Calls Tryz.prog 212 #[.string s,.int .u8 c] w fun e w'=>e=.returned (.int .i64 (Lib.indexByte s.data.toList c.toNat.toUInt8))∧w'=w:=Any.strings_IndexByte Tryz.lays137 s c w
def Tryz.laysM171_ren:Go.Shelf.Ren:=⟨fun | 171=>170 | 243=>236 | 246=>287 | 283=>315 | 284=>316 | 285=>317 | 286=>318 | 129=>331 | 317=>345 | 318=>346 | 319=>347 | 320=>348 | 337=>367 | 338=>368 | n=>n,fun | 3=>3 | 9=>9 | 2=>2 | 4=>4 | 171=>369 | 0=>0 | 53=>370 | 37=>206 | 5=>5 | 173=>373 | 212=>403 | 51=>384 | 20=>20 | 213=>404 | 46=>334 | 232=>443 | 233=>444 | n=>n,fun | 17=>5 | 18=>8 | 19=>9 | n=>n⟩
theorem Tryz.laysM171:Go.Proofs.LaysM.n171 Tryz.prog Tryz.laysM171_ren:={
  mixed:=by kernel_rfl
  f129:=Tryz.func331.trans (congrArg some (by kernel_rfl))
  f171:=Tryz.func170.trans (congrArg some (by kernel_rfl))
  f243:=Tryz.func236.trans (congrArg some (by kernel_rfl))
  f246:=Tryz.func287.trans (congrArg some (by kernel_rfl))
  f283:=Tryz.func315.trans (congrArg some (by kernel_rfl))
  f284:=Tryz.func316.trans (congrArg some (by kernel_rfl))
  f285:=Tryz.func317.trans (congrArg some (by kernel_rfl))
  f286:=Tryz.func318.trans (congrArg some (by kernel_rfl))
  f317:=Tryz.func345.trans (congrArg some (by kernel_rfl))
  f318:=Tryz.func346.trans (congrArg some (by kernel_rfl))
  f319:=Tryz.func347.trans (congrArg some (by kernel_rfl))
  f320:=Tryz.func348.trans (congrArg some (by kernel_rfl))
  f337:=Tryz.func367.trans (congrArg some (by kernel_rfl))
  f338:=Tryz.func368.trans (congrArg some (by kernel_rfl))
  t0:=Tryz.underlying0
  a0:=Tryz.isAgg0
  z0:=Tryz.sizeOf0
  v0:=Tryz.zeroValue0
  t2:=Tryz.underlying2
  a2:=Tryz.isAgg2
  z2:=Tryz.sizeOf2
  v2:=Tryz.zeroValue2
  t3:=Tryz.underlying3
  a3:=Tryz.isAgg3
  z3:=Tryz.sizeOf3
  v3:=Tryz.zeroValue3
  t4:=Tryz.underlying4
  a4:=Tryz.isAgg4
  z4:=Tryz.sizeOf4
  v4:=Tryz.zeroValue4
  t5:=Tryz.underlying5
  a5:=Tryz.isAgg5
  z5:=Tryz.sizeOf5
  v5:=Tryz.zeroValue5
  t9:=Tryz.underlying9
  a9:=Tryz.isAgg9
  z9:=Tryz.sizeOf9
  v9:=Tryz.zeroValue9
  t20:=Tryz.underlying20
  a20:=Tryz.isAgg20
  z20:=Tryz.sizeOf20
  v20:=Tryz.zeroValue20
  t37:=Tryz.underlying206
  a37:=Tryz.isAgg206
  z37:=Tryz.sizeOf206
  v37:=Tryz.zeroValue206
  t46:=Tryz.underlying334
  a46:=Tryz.isAgg334
  z46:=Tryz.sizeOf334
  v46:=Tryz.zeroValue334
  t51:=Tryz.underlying384
  a51:=Tryz.isAgg384
  z51:=Tryz.sizeOf384
  v51:=Tryz.zeroValue384
  t53:=Tryz.underlying370
  a53:=Tryz.isAgg370
  z53:=Tryz.sizeOf370
  v53:=Tryz.zeroValue370
  t171:=Tryz.underlying369
  a171:=Tryz.isAgg369
  z171:=Tryz.sizeOf369
  v171:=Tryz.zeroValue369
  t173:=Tryz.underlying373
  a173:=Tryz.isAgg373
  z173:=Tryz.sizeOf373
  v173:=Tryz.zeroValue373
  t212:=Tryz.underlying403
  a212:=Tryz.isAgg403
  z212:=Tryz.sizeOf403
  v212:=Tryz.zeroValue403
  t213:=Tryz.underlying404
  a213:=Tryz.isAgg404
  z213:=Tryz.sizeOf404
  t232:=Tryz.underlying443
  a232:=Tryz.isAgg443
  z232:=Tryz.sizeOf443
  v232:=Tryz.zeroValue443
  t233:=Tryz.underlying444
  a233:=Tryz.isAgg444
  z233:=Tryz.sizeOf444
  v233:=Tryz.zeroValue444
  g17:=by kernel_rfl
  g18:=by kernel_rfl
  g19:=by kernel_rfl
  i0:=by kernel_rfl
  i2:=by kernel_rfl
  i3:=by kernel_rfl
  i4:=by kernel_rfl
  i5:=by kernel_rfl
  i9:=by kernel_rfl
  i20:=by kernel_rfl
  i37:=by kernel_rfl
  i46:=by kernel_rfl
  i51:=by kernel_rfl
  i53:=by kernel_rfl
  i171:=by kernel_rfl
  i173:=by kernel_rfl
  i212:=by kernel_rfl
  i232:=by kernel_rfl
  i233:=by kernel_rfl
  m17:=by kernel_rfl
  m18:=by kernel_rfl
  m19:=by kernel_rfl }
open Go.RowKit Go.Sort Go.Lib in
theorem Tryz.strconv_Itoa (n : Int) (h0 : -9223372036854775808 ≤ n) (h1 : n ≤ 9223372036854775807) (w : World) (htab : Lib.TabIs Tryz.prog w "internal/strconv.uint64pow10" .u64 Lib.pow10Tab) :
    Calls Tryz.prog 170 #[.int .i64 n] w fun e w'=>e=.returned (.string ⟨(Lib.itoa n).toArray⟩)∧∃ k os,w'=grow (w.drewN k) os:=Any.strconv_Itoa Tryz.laysM171 n h0 h1 w htab
def Tryz.lays217_ren:Go.Shelf.Ren:=⟨fun | 217=>273 | 266=>308 | n=>n,fun | 9=>9 | 5=>5 | 3=>3 | n=>n,fun | n=>n⟩
theorem Tryz.lays217:Go.Proofs.Lays.n217 Tryz.prog Tryz.lays217_ren:={
  mixed:=by kernel_rfl
  f217:=Tryz.func273.trans (congrArg some (by kernel_rfl))
  f266:=Tryz.func308.trans (congrArg some (by kernel_rfl))
  t3:=Tryz.underlying3
  a3:=Tryz.isAgg3
  z3:=Tryz.sizeOf3
  v3:=Tryz.zeroValue3
  t5:=Tryz.underlying5
  a5:=Tryz.isAgg5
  z5:=Tryz.sizeOf5
  v5:=Tryz.zeroValue5
  t9:=Tryz.underlying9
  a9:=Tryz.isAgg9
  z9:=Tryz.sizeOf9
  v9:=Tryz.zeroValue9 }
open Go.RowKit Go.Lib in
theorem Tryz.stringslite_IndexByte (s : ByteArray) (c : Int) (w : World) :
    Calls Tryz.prog 273 #[.string s,.int .u8 c] w fun e w'=>e=.returned (.int .i64 (Lib.indexByte s.data.toList c.toNat.toUInt8))∧w'=w:=Any.stringslite_IndexByte Tryz.lays217 s c w
def Tryz.lays219_ren:Go.Shelf.Ren:=⟨fun | 219=>272 | 217=>273 | 225=>271 | 224=>270 | 267=>307 | 266=>308 | 314=>336 | n=>n,fun | 9=>9 | 3=>3 | 4=>4 | 5=>5 | 46=>334 | 146=>392 | 51=>384 | n=>n,fun | 1=>4 | n=>n⟩
theorem Tryz.lays219:Go.Proofs.Lays.n219 Tryz.prog Tryz.lays219_ren:={
  mixed:=by kernel_rfl
  f217:=Tryz.func273.trans (congrArg some (by kernel_rfl))
  f219:=Tryz.func272.trans (congrArg some (by kernel_rfl))
  f224:=Tryz.func270.trans (congrArg some (by kernel_rfl))
  f225:=Tryz.func271.trans (congrArg some (by kernel_rfl))
  f266:=Tryz.func308.trans (congrArg some (by kernel_rfl))
  f267:=Tryz.func307.trans (congrArg some (by kernel_rfl))
  f314:=Tryz.func336.trans (congrArg some (by kernel_rfl))
  t3:=Tryz.underlying3
  a3:=Tryz.isAgg3
  z3:=Tryz.sizeOf3
  v3:=Tryz.zeroValue3
  t4:=Tryz.underlying4
  a4:=Tryz.isAgg4
  z4:=Tryz.sizeOf4
  v4:=Tryz.zeroValue4
  t5:=Tryz.underlying5
  a5:=Tryz.isAgg5
  z5:=Tryz.sizeOf5
  v5:=Tryz.zeroValue5
  t9:=Tryz.underlying9
  a9:=Tryz.isAgg9
  z9:=Tryz.sizeOf9
  v9:=Tryz.zeroValue9
  t46:=Tryz.underlying334
  a46:=Tryz.isAgg334
  z46:=Tryz.sizeOf334
  v46:=Tryz.zeroValue334
  t51:=Tryz.underlying384
  a51:=Tryz.isAgg384
  z51:=Tryz.sizeOf384
  v51:=Tryz.zeroValue384
  t146:=Tryz.underlying392
  a146:=Tryz.isAgg392
  z146:=Tryz.sizeOf392
  v146:=Tryz.zeroValue392
  g1:=by kernel_rfl }
open Go.RowKit Go.Lib in
theorem Tryz.stringslite_Index_one (s : ByteArray) (c : UInt8) (w : World) :
    Calls Tryz.prog 272 #[.string s,.string ⟨#[c]⟩] w fun e w'=>e=.returned (.int .i64 (Lib.indexByte s.data.toList c))∧w'=w:=Any.stringslite_Index_one Tryz.lays219 s c w
def Tryz.lays190_ren:Go.Shelf.Ren:=⟨fun | 190=>257 | 125=>295 | 258=>294 | 128=>330 | 129=>331 | 302=>321 | 303=>322 | 304=>323 | 305=>324 | 306=>325 | 307=>326 | 308=>327 | 309=>328 | 310=>329 | 333=>349 | 329=>350 | 330=>351 | 334=>352 | 335=>353 | 336=>354 | 344=>369 | n=>n,fun | 31=>45 | 9=>9 | 3=>3 | 46=>334 | 0=>0 | 51=>384 | 53=>370 | 4=>4 | 183=>378 | 182=>377 | 131=>128 | 5=>5 | 218=>412 | 222=>262 | 228=>429 | 229=>430 | n=>n,fun | n=>n⟩
theorem Tryz.lays190:Go.Proofs.Lays.n190 Tryz.prog Tryz.lays190_ren:={
  mixed:=by kernel_rfl
  f125:=Tryz.func295.trans (congrArg some (by kernel_rfl))
  f128:=Tryz.func330.trans (congrArg some (by kernel_rfl))
  f129:=Tryz.func331.trans (congrArg some (by kernel_rfl))
  f190:=Tryz.func257.trans (congrArg some (by kernel_rfl))
  f258:=Tryz.func294.trans (congrArg some (by kernel_rfl))
  f302:=Tryz.func321.trans (congrArg some (by kernel_rfl))
  f303:=Tryz.func322.trans (congrArg some (by kernel_rfl))
  f304:=Tryz.func323.trans (congrArg some (by kernel_rfl))
  f305:=Tryz.func324.trans (congrArg some (by kernel_rfl))
  f306:=Tryz.func325.trans (congrArg some (by kernel_rfl))
  f307:=Tryz.func326.trans (congrArg some (by kernel_rfl))
  f308:=Tryz.func327.trans (congrArg some (by kernel_rfl))
  f309:=Tryz.func328.trans (congrArg some (by kernel_rfl))
  f310:=Tryz.func329.trans (congrArg some (by kernel_rfl))
  f329:=Tryz.func350.trans (congrArg some (by kernel_rfl))
  f330:=Tryz.func351.trans (congrArg some (by kernel_rfl))
  f333:=Tryz.func349.trans (congrArg some (by kernel_rfl))
  f334:=Tryz.func352.trans (congrArg some (by kernel_rfl))
  f335:=Tryz.func353.trans (congrArg some (by kernel_rfl))
  f336:=Tryz.func354.trans (congrArg some (by kernel_rfl))
  f344:=Tryz.func369.trans (congrArg some (by kernel_rfl))
  t0:=Tryz.underlying0
  a0:=Tryz.isAgg0
  z0:=Tryz.sizeOf0
  v0:=Tryz.zeroValue0
  t3:=Tryz.underlying3
  a3:=Tryz.isAgg3
  z3:=Tryz.sizeOf3
  v3:=Tryz.zeroValue3
  t4:=Tryz.underlying4
  a4:=Tryz.isAgg4
  z4:=Tryz.sizeOf4
  v4:=Tryz.zeroValue4
  t5:=Tryz.underlying5
  a5:=Tryz.isAgg5
  z5:=Tryz.sizeOf5
  v5:=Tryz.zeroValue5
  t9:=Tryz.underlying9
  a9:=Tryz.isAgg9
  z9:=Tryz.sizeOf9
  v9:=Tryz.zeroValue9
  t31:=Tryz.underlying45
  a31:=Tryz.isAgg45
  z31:=Tryz.sizeOf45
  v31:=Tryz.zeroValue45
  t46:=Tryz.underlying334
  a46:=Tryz.isAgg334
  z46:=Tryz.sizeOf334
  v46:=Tryz.zeroValue334
  t51:=Tryz.underlying384
  a51:=Tryz.isAgg384
  z51:=Tryz.sizeOf384
  v51:=Tryz.zeroValue384
  t53:=Tryz.underlying370
  a53:=Tryz.isAgg370
  z53:=Tryz.sizeOf370
  v53:=Tryz.zeroValue370
  t131:=Tryz.underlying128
  a131:=Tryz.isAgg128
  z131:=Tryz.sizeOf128
  v131:=Tryz.zeroValue128
  t182:=Tryz.underlying377
  a182:=Tryz.isAgg377
  z182:=Tryz.sizeOf377
  v182:=Tryz.zeroValue377
  t183:=Tryz.underlying378
  a183:=Tryz.isAgg378
  z183:=Tryz.sizeOf378
  v183:=Tryz.zeroValue378
  t218:=Tryz.underlying412
  a218:=Tryz.isAgg412
  z218:=Tryz.sizeOf412
  v218:=Tryz.zeroValue412
  t222:=Tryz.underlying262
  a222:=Tryz.isAgg262
  z222:=Tryz.sizeOf262
  v222:=Tryz.zeroValue262
  t228:=Tryz.underlying429
  a228:=Tryz.isAgg429
  z228:=Tryz.sizeOf429
  v228:=Tryz.zeroValue429
  t229:=Tryz.underlying430
  a229:=Tryz.isAgg430
  z229:=Tryz.sizeOf430
  v229:=Tryz.zeroValue430 }
open Go.Sort Go.RowKit in
theorem Tryz.slices_Sort_string (blk off cap : Nat) (ss : List (List UInt8)) (w : World) (hH : Holds encStr w blk off ss.toArray) (hblk : blk < w.heap.size) (hsz : ss.length < 4611686018427387904) :
    Calls Tryz.prog 257 #[.slice (some ⟨blk,off,none⟩) ss.length cap] w fun e w' =>
      e=.returned (.tuple #[])∧∃ n os,w'=grow (putRow encStr (Sort.ahead w n) blk off (ss.mergeSort fun x y=>decide (x≤y)).toArray) os:=Any.slices_Sort_string Tryz.lays190 blk off cap ss w hH hblk hsz
def Tryz.lays153_ren:Go.Shelf.Ren:=⟨fun | 153=>140 | 152=>204 | 226=>205 | 227=>206 | 228=>207 | 137=>212 | 119=>269 | 224=>270 | 225=>271 | 217=>273 | 266=>308 | n=>n,fun | 9=>9 | 3=>3 | 4=>4 | 5=>5 | 21=>21 | 117=>288 | 116=>287 | 0=>0 | 46=>334 | 124=>335 | n=>n,fun | n=>n⟩
theorem Tryz.lays153:Go.Proofs.Lays.n153 Tryz.prog Tryz.lays153_ren:={
  mixed:=by kernel_rfl
  f119:=Tryz.func269.trans (congrArg some (by kernel_rfl))
  f137:=Tryz.func212.trans (congrArg some (by kernel_rfl))
  f152:=Tryz.func204.trans (congrArg some (by kernel_rfl))
  f153:=Tryz.func140.trans (congrArg some (by kernel_rfl))
  f217:=Tryz.func273.trans (congrArg some (by kernel_rfl))
  f224:=Tryz.func270.trans (congrArg some (by kernel_rfl))
  f225:=Tryz.func271.trans (congrArg some (by kernel_rfl))
  f226:=Tryz.func205.trans (congrArg some (by kernel_rfl))
  f227:=Tryz.func206.trans (congrArg some (by kernel_rfl))
  f228:=Tryz.func207.trans (congrArg some (by kernel_rfl))
  f266:=Tryz.func308.trans (congrArg some (by kernel_rfl))
  t0:=Tryz.underlying0
  a0:=Tryz.isAgg0
  z0:=Tryz.sizeOf0
  v0:=Tryz.zeroValue0
  t3:=Tryz.underlying3
  a3:=Tryz.isAgg3
  z3:=Tryz.sizeOf3
  v3:=Tryz.zeroValue3
  t4:=Tryz.underlying4
  a4:=Tryz.isAgg4
  z4:=Tryz.sizeOf4
  v4:=Tryz.zeroValue4
  t5:=Tryz.underlying5
  a5:=Tryz.isAgg5
  z5:=Tryz.sizeOf5
  v5:=Tryz.zeroValue5
  t9:=Tryz.underlying9
  a9:=Tryz.isAgg9
  z9:=Tryz.sizeOf9
  v9:=Tryz.zeroValue9
  t21:=Tryz.underlying21
  a21:=Tryz.isAgg21
  z21:=Tryz.sizeOf21
  v21:=Tryz.zeroValue21
  t46:=Tryz.underlying334
  a46:=Tryz.isAgg334
  z46:=Tryz.sizeOf334
  v46:=Tryz.zeroValue334
  t116:=Tryz.underlying287
  a116:=Tryz.isAgg287
  z116:=Tryz.sizeOf287
  t117:=Tryz.underlying288
  a117:=Tryz.isAgg288
  z117:=Tryz.sizeOf288
  v117:=Tryz.zeroValue288
  t124:=Tryz.underlying335
  a124:=Tryz.isAgg335
  z124:=Tryz.sizeOf335
  v124:=Tryz.zeroValue335 }
def Tryz.lays227_ren:Go.Shelf.Ren:=⟨fun | 227=>206 | n=>n,fun | 9=>9 | 116=>287 | 4=>4 | 0=>0 | 3=>3 | 5=>5 | n=>n,fun | n=>n⟩
theorem Tryz.lays227:Go.Proofs.Lays.n227 Tryz.prog Tryz.lays227_ren:={
  mixed:=by kernel_rfl
  f227:=Tryz.func206.trans (congrArg some (by kernel_rfl))
  t0:=Tryz.underlying0
  a0:=Tryz.isAgg0
  z0:=Tryz.sizeOf0
  v0:=Tryz.zeroValue0
  t3:=Tryz.underlying3
  a3:=Tryz.isAgg3
  z3:=Tryz.sizeOf3
  v3:=Tryz.zeroValue3
  t4:=Tryz.underlying4
  a4:=Tryz.isAgg4
  z4:=Tryz.sizeOf4
  v4:=Tryz.zeroValue4
  t5:=Tryz.underlying5
  a5:=Tryz.isAgg5
  z5:=Tryz.sizeOf5
  v5:=Tryz.zeroValue5
  t9:=Tryz.underlying9
  a9:=Tryz.isAgg9
  z9:=Tryz.sizeOf9
  v9:=Tryz.zeroValue9
  t116:=Tryz.underlying287
  a116:=Tryz.isAgg287
  z116:=Tryz.sizeOf287 }
open Go.RowKit Go.Lib in
theorem Tryz.strings_makeASCIISet (hv116 : ∀ w, (zeroValue 287).run Tryz.prog w = .ok (.agg (Array.replicate 256 (.bool false))) w) (chars : ByteArray) (w : World) (hs : chars.size < 4294967281) (hascii : ∀ (j : Nat) b, chars.data.toList[j]? = some b → b.toNat < 128) :
    Calls Tryz.prog 206 #[.string chars] w fun e w'=>e=.returned (.tuple #[.agg (Lib.setCells chars.data.toList),.bool true])∧w'=w.alloc (.cells (Lib.setCells chars.data.toList) 287):=Any.strings_makeASCIISet Tryz.lays227 hv116 (by kernel_rfl) chars w hs hascii
def Tryz.lays228_ren:Go.Shelf.Ren:=⟨fun | 228=>207 | n=>n,fun | 124=>335 | 5=>5 | 4=>4 | 0=>0 | 116=>287 | n=>n,fun | n=>n⟩
theorem Tryz.lays228:Go.Proofs.Lays.n228 Tryz.prog Tryz.lays228_ren:={
  mixed:=by kernel_rfl
  f228:=Tryz.func207.trans (congrArg some (by kernel_rfl))
  t0:=Tryz.underlying0
  a0:=Tryz.isAgg0
  z0:=Tryz.sizeOf0
  v0:=Tryz.zeroValue0
  t4:=Tryz.underlying4
  a4:=Tryz.isAgg4
  z4:=Tryz.sizeOf4
  v4:=Tryz.zeroValue4
  t5:=Tryz.underlying5
  a5:=Tryz.isAgg5
  z5:=Tryz.sizeOf5
  v5:=Tryz.zeroValue5
  t116:=Tryz.underlying287
  a116:=Tryz.isAgg287
  z116:=Tryz.sizeOf287
  t124:=Tryz.underlying335
  a124:=Tryz.isAgg335
  z124:=Tryz.sizeOf335
  v124:=Tryz.zeroValue335 }
open Go.RowKit Go.Lib in
theorem Tryz.asciiSet_contains (b : Nat) (x : UInt8) (v : Bool) (w : World) (hc : w.cell? ⟨b, x.toNat, none⟩ = some (.bool v)) :
    Calls Tryz.prog 207 #[.pointer (some ⟨b,0,none⟩),.int .u8 x.toNat] w fun e w'=>e=.returned (.bool v)∧w'=w:=Any.asciiSet_contains Tryz.lays228 b x v w hc
open Go.RowKit Go.Lib in
theorem Tryz.strings_IndexAny (hv116 : ∀ w, (zeroValue 287).run Tryz.prog w = .ok (.agg (Array.replicate 256 (.bool false))) w) (s chars : ByteArray) (w : World) (hs : s.size < 4294967281) (hcs : chars.size < 4294967281) (has : ∀ (j : Nat) b, s.data.toList[j]? = some b → b.toNat < 128) (hac : ∀ (j : Nat) b, chars.data.toList[j]? = some b → b.toNat < 128) :
    Calls Tryz.prog 140 #[.string s,.string chars] w fun e w'=>e=.returned (.int .i64 (Lib.indexAny s.data.toList chars.data.toList))∧Below w.heap.size w w':=Any.strings_IndexAny Tryz.lays153 hv116 (by kernel_rfl) s chars w hs hcs has hac
def Tryz.lays194_ren:Go.Shelf.Ren:=⟨fun | 194=>258 | n=>n,fun | 31=>45 | 9=>9 | 3=>3 | 4=>4 | 0=>0 | n=>n,fun | n=>n⟩
theorem Tryz.lays194:Go.Proofs.Lays.n194 Tryz.prog Tryz.lays194_ren:={
  mixed:=by kernel_rfl
  f194:=Tryz.func258.trans (congrArg some (by kernel_rfl))
  t0:=Tryz.underlying0
  a0:=Tryz.isAgg0
  z0:=Tryz.sizeOf0
  v0:=Tryz.zeroValue0
  t3:=Tryz.underlying3
  a3:=Tryz.isAgg3
  z3:=Tryz.sizeOf3
  v3:=Tryz.zeroValue3
  t4:=Tryz.underlying4
  a4:=Tryz.isAgg4
  z4:=Tryz.sizeOf4
  v4:=Tryz.zeroValue4
  t9:=Tryz.underlying9
  a9:=Tryz.isAgg9
  z9:=Tryz.sizeOf9
  v9:=Tryz.zeroValue9
  t31:=Tryz.underlying45
  a31:=Tryz.isAgg45
  z31:=Tryz.sizeOf45
  v31:=Tryz.zeroValue45 }
open Go.RowKit Go.Lib Go.Sort in
theorem Tryz.slices_Compact_string (blk off cap : Nat) (zs : List (List UInt8)) (w : World) (hH : Holds encStr w blk off zs.toArray) (hsz : zs.length ≤ 9223372036854775807) (hcap : zs.length ≤ cap) :
    Calls Tryz.prog 258 #[.slice (some ⟨blk,off,none⟩) zs.length cap] w fun e w'=>e=.returned (.slice (some ⟨blk,off,none⟩) (Lib.compact zs).length cap)∧∃ q,w'=putRow encStr (Sort.ahead w q) blk off (Lib.compact zs++List.replicate (zs.length - (Lib.compact zs).length) []).toArray:=Any.slices_Compact_string Tryz.lays194 blk off cap zs w hH hsz hcap
open Go.RowKit Go.Lib Go.Sort in
theorem Tryz.slices_Compact_string_empty (a : Option Addr) (cap : Nat) (w : World) :
    Calls Tryz.prog 258 #[.slice a 0 cap] w fun e w'=>e=.returned (.slice a 0 cap)∧w'=w:=Any.slices_Compact_string_empty Tryz.lays194 a cap w
open Go.RowKit Go.Sort in
theorem Tryz.slices_Sort_string_none (p : Option Addr) (cap : Nat) (w : World) :
    Calls Tryz.prog 257 #[.slice p 0 cap] w fun e w'=>e=.returned (.tuple #[])∧w'=w:=Any.slices_Sort_string_none Tryz.lays190 p cap w
end Go.Proofs
