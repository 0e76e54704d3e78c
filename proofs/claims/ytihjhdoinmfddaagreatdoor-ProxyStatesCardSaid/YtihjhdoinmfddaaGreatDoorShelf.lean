/- Contracts of the library. -/
import Derived.Shelf.Strings.OnBuilder
import Derived.Shelf.Small.Strs
import Derived.Shelf.Strconv.Itoa3
import Derived.Shelf.Strings.Search1
import Derived.Shelf.Strings.Search2
import Derived.Shelf.Sort.Plain
import Derived.Shelf.Strings.AsciiSet
import Derived.Shelf.Strings.IndexAnyAll
import Derived.Shelf.Slices.CompactS
import Derived.Shelf.Slices.In.SortNone
import Derived.Test.YtihjhdoinmfddaaGreatDoorProg
namespace Go.Proofs
open Go.Shelf
def Tryz.lays156_ren:Go.Shelf.Ren:=⟨fun | 156=>171 | 165=>232 | 166=>172 | 169=>175 | 240=>233 | 241=>267 | 276=>268 | 277=>295 | n=>n,fun | 31=>33 | 9=>9 | 3=>3 | 4=>4 | 0=>0 | 20=>20 | 72=>272 | 76=>273 | 70=>270 | 37=>266 | 75=>67 | 127=>321 | 164=>107 | 5=>5 | 80=>276 | n=>n,fun | n=>n⟩
theorem Tryz.lays156:Go.Proofs.Lays.n156 Tryz.prog Tryz.lays156_ren:={
 mixed:=by kernel_rfl
 f156:=Tryz.func171.trans (congrArg some (by kernel_rfl))
 f165:=Tryz.func232.trans (congrArg some (by kernel_rfl))
 f166:=Tryz.func172.trans (congrArg some (by kernel_rfl))
 f169:=Tryz.func175.trans (congrArg some (by kernel_rfl))
 f240:=Tryz.func233.trans (congrArg some (by kernel_rfl))
 f241:=Tryz.func267.trans (congrArg some (by kernel_rfl))
 f276:=Tryz.func268.trans (congrArg some (by kernel_rfl))
 f277:=Tryz.func295.trans (congrArg some (by kernel_rfl))
 t0:=Tryz.underlying0
 a0:=Tryz.isAgg0
 z0:=Tryz.sizeOf0
 v0:=Tryz.zeroValue0
 t3:=Tryz.underlying3
 a3:=Tryz.isAgg3
 z3:=Tryz.sizeOf3
 v3:=Tryz.zeroValue3
 t4:=Tryz.underlying4
 a4:=Tryz.isAgg4
 z4:=Tryz.sizeOf4
 v4:=Tryz.zeroValue4
 t9:=Tryz.underlying9
 a9:=Tryz.isAgg9
 z9:=Tryz.sizeOf9
 v9:=Tryz.zeroValue9
 t20:=Tryz.underlying20
 a20:=Tryz.isAgg20
 z20:=Tryz.sizeOf20
 v20:=Tryz.zeroValue20
 t31:=Tryz.underlying33
 a31:=Tryz.isAgg33
 z31:=Tryz.sizeOf33
 v31:=Tryz.zeroValue33
 t37:=Tryz.underlying266
 a37:=Tryz.isAgg266
 z37:=Tryz.sizeOf266
 v37:=Tryz.zeroValue266
 t70:=Tryz.underlying270
 a70:=Tryz.isAgg270
 z70:=Tryz.sizeOf270
 v70:=Tryz.zeroValue270
 t72:=Tryz.underlying272
 a72:=Tryz.isAgg272
 z72:=Tryz.sizeOf272
 v72:=Tryz.zeroValue272
 t75:=Tryz.underlying67
 a75:=Tryz.isAgg67
 z75:=Tryz.sizeOf67
 v75:=Tryz.zeroValue67
 t76:=Tryz.underlying273
 a76:=Tryz.isAgg273
 z76:=Tryz.sizeOf273
 v76:=Tryz.zeroValue273
 t127:=Tryz.underlying321
 a127:=Tryz.isAgg321
 z127:=Tryz.sizeOf321
 v127:=Tryz.zeroValue321
 t164:=Tryz.underlying107
 a164:=Tryz.isAgg107
 z164:=Tryz.sizeOf107
 v164:=Tryz.zeroValue107 }
theorem Tryz.Builder_Extra_156:Builder.Extra Tryz.prog Tryz.lays156_ren:={
 sizeBuilder:=by kernel_rfl
 liesBuilder:=by kernel_rfl
 t5:=Tryz.underlying5
 a5:=Tryz.isAgg5
 z5:=Tryz.sizeOf5
 v5:=Tryz.zeroValue5
 infoByte:=by kernel_rfl
 cellsByte:=by kernel_rfl
 sizeByte:=by kernel_rfl
 neB5:=by decide }
open Go.RowKit in
theorem Tryz.strings_Join_none (a : Option Addr) (c : Nat) (sep : ByteArray) (w : World) :
  Calls Tryz.prog 171 #[.slice a 0 c,.string sep] w fun e w'=>e=.returned (.string ⟨#[]⟩)∧w'=w:=Any.strings_Join_none Tryz.lays156 Tryz.Builder_Extra_156 a c sep w
open Go.RowKit in
theorem Tryz.strings_Join (bk o c : Nat) (xs : List ByteArray) (sep : ByteArray) (w : World) (hcells : ∀ (j : Nat) x, xs[j]? = some x → w.cell? ⟨bk, o + j, none⟩ = some (.string x)) (hbk : bk < w.heap.size) (hN : xs.length ≤ 140737488355328) (hcap : xs.length ≤ c) (hlen : (Lib.join (xs.map (·.data.toList)) sep.data.toList).length ≤ 140737488355328) :
  Calls Tryz.prog 171 #[.slice (some ⟨bk,o,none⟩) xs.length c,.string sep] w fun e w'=>e=.returned (.string ⟨(Lib.join (xs.map (·.data.toList)) sep.data.toList).toArray⟩)∧Below w.heap.size w w':=Any.strings_Join Tryz.lays156 Tryz.Builder_Extra_156 bk o c xs sep w hcells hbk hN hcap hlen
def Tryz.lays137_ren:Go.Shelf.Ren:=⟨fun | 137=>169 | 217=>231 | 266=>266 | n=>n,fun | 9=>9 | 5=>5 | 3=>3 | n=>n,fun | n=>n⟩
theorem Tryz.lays137:Go.Proofs.Lays.n137 Tryz.prog Tryz.lays137_ren:={
 mixed:=by kernel_rfl
 f137:=Tryz.func169.trans (congrArg some (by kernel_rfl))
 f217:=Tryz.func231.trans (congrArg some (by kernel_rfl))
 f266:=Tryz.func266.trans (congrArg some (by kernel_rfl))
 t3:=Tryz.underlying3
 a3:=Tryz.isAgg3
 z3:=Tryz.sizeOf3
 v3:=Tryz.zeroValue3
 t5:=Tryz.underlying5
 a5:=Tryz.isAgg5
 z5:=Tryz.sizeOf5
 v5:=Tryz.zeroValue5
 t9:=Tryz.underlying9
 a9:=Tryz.isAgg9
 z9:=Tryz.sizeOf9
 v9:=Tryz.zeroValue9 }
open Go.RowKit in
theorem Tryz.strings_IndexByte (s : ByteArray) (c : Int) (w : World) :
  Calls Tryz.prog 169 #[.string s,.int .u8 c] w fun e w'=>e=.returned (.int .i64 (Lib.indexByte s.data.toList c.toNat.toUInt8))∧w'=w:=Any.strings_IndexByte Tryz.lays137 s c w
def Tryz.laysM171_ren:Go.Shelf.Ren:=⟨fun | 171=>130 | 243=>194 | 246=>245 | 283=>273 | 284=>274 | 285=>275 | 286=>276 | 129=>289 | 317=>303 | 318=>304 | 319=>305 | 320=>306 | 337=>325 | 338=>326 | n=>n,fun | 3=>3 | 9=>9 | 2=>2 | 4=>4 | 171=>354 | 0=>0 | 53=>355 | 37=>266 | 5=>5 | 173=>358 | 212=>388 | 51=>369 | 20=>20 | 213=>389 | 46=>318 | 232=>428 | 233=>429 | n=>n,fun | 17=>5 | 18=>8 | 19=>9 | n=>n⟩
theorem Tryz.laysM171:Go.Proofs.LaysM.n171 Tryz.prog Tryz.laysM171_ren:={
 mixed:=by kernel_rfl
 f129:=Tryz.func289.trans (congrArg some (by kernel_rfl))
 f171:=Tryz.func130.trans (congrArg some (by kernel_rfl))
 f243:=Tryz.func194.trans (congrArg some (by kernel_rfl))
 f246:=Tryz.func245.trans (congrArg some (by kernel_rfl))
 f283:=Tryz.func273.trans (congrArg some (by kernel_rfl))
 f284:=Tryz.func274.trans (congrArg some (by kernel_rfl))
 f285:=Tryz.func275.trans (congrArg some (by kernel_rfl))
 f286:=Tryz.func276.trans (congrArg some (by kernel_rfl))
 f317:=Tryz.func303.trans (congrArg some (by kernel_rfl))
 f318:=Tryz.func304.trans (congrArg some (by kernel_rfl))
 f319:=Tryz.func305.trans (congrArg some (by kernel_rfl))
 f320:=Tryz.func306.trans (congrArg some (by kernel_rfl))
 f337:=Tryz.func325.trans (congrArg some (by kernel_rfl))
 f338:=Tryz.func326.trans (congrArg some (by kernel_rfl))
 t0:=Tryz.underlying0
 a0:=Tryz.isAgg0
 z0:=Tryz.sizeOf0
 v0:=Tryz.zeroValue0
 t2:=Tryz.underlying2
 a2:=Tryz.isAgg2
 z2:=Tryz.sizeOf2
 v2:=Tryz.zeroValue2
 t3:=Tryz.underlying3
 a3:=Tryz.isAgg3
 z3:=Tryz.sizeOf3
 v3:=Tryz.zeroValue3
 t4:=Tryz.underlying4
 a4:=Tryz.isAgg4
 z4:=Tryz.sizeOf4
 v4:=Tryz.zeroValue4
 t5:=Tryz.underlying5
 a5:=Tryz.isAgg5
 z5:=Tryz.sizeOf5
 v5:=Tryz.zeroValue5
 t9:=Tryz.underlying9
 a9:=Tryz.isAgg9
 z9:=Tryz.sizeOf9
 v9:=Tryz.zeroValue9
 t20:=Tryz.underlying20
 a20:=Tryz.isAgg20
 z20:=Tryz.sizeOf20
 v20:=Tryz.zeroValue20
 t37:=Tryz.underlying266
 a37:=Tryz.isAgg266
 z37:=Tryz.sizeOf266
 v37:=Tryz.zeroValue266
 t46:=Tryz.underlying318
 a46:=Tryz.isAgg318
 z46:=Tryz.sizeOf318
 v46:=Tryz.zeroValue318
 t51:=Tryz.underlying369
 a51:=Tryz.isAgg369
 z51:=Tryz.sizeOf369
 v51:=Tryz.zeroValue369
 t53:=Tryz.underlying355
 a53:=Tryz.isAgg355
 z53:=Tryz.sizeOf355
 v53:=Tryz.zeroValue355
 t171:=Tryz.underlying354
 a171:=Tryz.isAgg354
 z171:=Tryz.sizeOf354
 v171:=Tryz.zeroValue354
 t173:=Tryz.underlying358
 a173:=Tryz.isAgg358
 z173:=Tryz.sizeOf358
 v173:=Tryz.zeroValue358
 t212:=Tryz.underlying388
 a212:=Tryz.isAgg388
 z212:=Tryz.sizeOf388
 v212:=Tryz.zeroValue388
 t213:=Tryz.underlying389
 a213:=Tryz.isAgg389
 z213:=Tryz.sizeOf389
 t232:=Tryz.underlying428
 a232:=Tryz.isAgg428
 z232:=Tryz.sizeOf428
 v232:=Tryz.zeroValue428
 t233:=Tryz.underlying429
 a233:=Tryz.isAgg429
 z233:=Tryz.sizeOf429
 v233:=Tryz.zeroValue429
 g17:=by kernel_rfl
 g18:=by kernel_rfl
 g19:=by kernel_rfl
 i0:=by kernel_rfl
 i2:=by kernel_rfl
 i3:=by kernel_rfl
 i4:=by kernel_rfl
 i5:=by kernel_rfl
 i9:=by kernel_rfl
 i20:=by kernel_rfl
 i37:=by kernel_rfl
 i46:=by kernel_rfl
 i51:=by kernel_rfl
 i53:=by kernel_rfl
 i171:=by kernel_rfl
 i173:=by kernel_rfl
 i212:=by kernel_rfl
 i232:=by kernel_rfl
 i233:=by kernel_rfl
 m17:=by kernel_rfl
 m18:=by kernel_rfl
 m19:=by kernel_rfl }
open Go.RowKit Go.Sort Go.Lib in
theorem Tryz.strconv_Itoa (n : Int) (h0 : -9223372036854775808 ≤ n) (h1 : n ≤ 9223372036854775807) (w : World) (htab : Lib.TabIs Tryz.prog w "internal/strconv.uint64pow10" .u64 Lib.pow10Tab) :
  Calls Tryz.prog 130 #[.int .i64 n] w fun e w'=>e=.returned (.string ⟨(Lib.itoa n).toArray⟩)∧∃ k os,w'=grow (w.drewN k) os:=Any.strconv_Itoa Tryz.laysM171 n h0 h1 w htab
def Tryz.lays217_ren:Go.Shelf.Ren:=⟨fun | 217=>231 | 266=>266 | n=>n,fun | 9=>9 | 5=>5 | 3=>3 | n=>n,fun | n=>n⟩
theorem Tryz.lays217:Go.Proofs.Lays.n217 Tryz.prog Tryz.lays217_ren:={
 mixed:=by kernel_rfl
 f217:=Tryz.func231.trans (congrArg some (by kernel_rfl))
 f266:=Tryz.func266.trans (congrArg some (by kernel_rfl))
 t3:=Tryz.underlying3
 a3:=Tryz.isAgg3
 z3:=Tryz.sizeOf3
 v3:=Tryz.zeroValue3
 t5:=Tryz.underlying5
 a5:=Tryz.isAgg5
 z5:=Tryz.sizeOf5
 v5:=Tryz.zeroValue5
 t9:=Tryz.underlying9
 a9:=Tryz.isAgg9
 z9:=Tryz.sizeOf9
 v9:=Tryz.zeroValue9 }
open Go.RowKit Go.Lib in
theorem Tryz.stringslite_IndexByte (s : ByteArray) (c : Int) (w : World) :
  Calls Tryz.prog 231 #[.string s,.int .u8 c] w fun e w'=>e=.returned (.int .i64 (Lib.indexByte s.data.toList c.toNat.toUInt8))∧w'=w:=Any.stringslite_IndexByte Tryz.lays217 s c w
def Tryz.lays219_ren:Go.Shelf.Ren:=⟨fun | 219=>230 | 217=>231 | 225=>229 | 224=>228 | 267=>265 | 266=>266 | 314=>294 | n=>n,fun | 9=>9 | 3=>3 | 4=>4 | 5=>5 | 46=>318 | 146=>377 | 51=>369 | n=>n,fun | 1=>4 | n=>n⟩
theorem Tryz.lays219:Go.Proofs.Lays.n219 Tryz.prog Tryz.lays219_ren:={
 mixed:=by kernel_rfl
 f217:=Tryz.func231.trans (congrArg some (by kernel_rfl))
 f219:=Tryz.func230.trans (congrArg some (by kernel_rfl))
 f224:=Tryz.func228.trans (congrArg some (by kernel_rfl))
 f225:=Tryz.func229.trans (congrArg some (by kernel_rfl))
 f266:=Tryz.func266.trans (congrArg some (by kernel_rfl))
 f267:=Tryz.func265.trans (congrArg some (by kernel_rfl))
 f314:=Tryz.func294.trans (congrArg some (by kernel_rfl))
 t3:=Tryz.underlying3
 a3:=Tryz.isAgg3
 z3:=Tryz.sizeOf3
 v3:=Tryz.zeroValue3
 t4:=Tryz.underlying4
 a4:=Tryz.isAgg4
 z4:=Tryz.sizeOf4
 v4:=Tryz.zeroValue4
 t5:=Tryz.underlying5
 a5:=Tryz.isAgg5
 z5:=Tryz.sizeOf5
 v5:=Tryz.zeroValue5
 t9:=Tryz.underlying9
 a9:=Tryz.isAgg9
 z9:=Tryz.sizeOf9
 v9:=Tryz.zeroValue9
 t46:=Tryz.underlying318
 a46:=Tryz.isAgg318
 z46:=Tryz.sizeOf318
 v46:=Tryz.zeroValue318
 t51:=Tryz.underlying369
 a51:=Tryz.isAgg369
 z51:=Tryz.sizeOf369
 v51:=Tryz.zeroValue369
 t146:=Tryz.underlying377
 a146:=Tryz.isAgg377
 z146:=Tryz.sizeOf377
 v146:=Tryz.zeroValue377
 g1:=by kernel_rfl }
open Go.RowKit Go.Lib in
theorem Tryz.stringslite_Index_one (s : ByteArray) (c : UInt8) (w : World) :
  Calls Tryz.prog 230 #[.string s,.string ⟨#[c]⟩] w fun e w'=>e=.returned (.int .i64 (Lib.indexByte s.data.toList c))∧w'=w:=Any.stringslite_Index_one Tryz.lays219 s c w
def Tryz.lays190_ren:Go.Shelf.Ren:=⟨fun | 190=>215 | 125=>253 | 258=>252 | 128=>288 | 129=>289 | 302=>279 | 303=>280 | 304=>281 | 305=>282 | 306=>283 | 307=>284 | 308=>285 | 309=>286 | 310=>287 | 333=>307 | 329=>308 | 330=>309 | 334=>310 | 335=>311 | 336=>312 | 344=>327 | n=>n,fun | 31=>33 | 9=>9 | 3=>3 | 46=>318 | 0=>0 | 51=>369 | 53=>355 | 4=>4 | 183=>363 | 182=>362 | 131=>122 | 5=>5 | 218=>397 | 222=>236 | 228=>414 | 229=>415 | n=>n,fun | n=>n⟩
theorem Tryz.lays190:Go.Proofs.Lays.n190 Tryz.prog Tryz.lays190_ren:={
 mixed:=by kernel_rfl
 f125:=Tryz.func253.trans (congrArg some (by kernel_rfl))
 f128:=Tryz.func288.trans (congrArg some (by kernel_rfl))
 f129:=Tryz.func289.trans (congrArg some (by kernel_rfl))
 f190:=Tryz.func215.trans (congrArg some (by kernel_rfl))
 f258:=Tryz.func252.trans (congrArg some (by kernel_rfl))
 f302:=Tryz.func279.trans (congrArg some (by kernel_rfl))
 f303:=Tryz.func280.trans (congrArg some (by kernel_rfl))
 f304:=Tryz.func281.trans (congrArg some (by kernel_rfl))
 f305:=Tryz.func282.trans (congrArg some (by kernel_rfl))
 f306:=Tryz.func283.trans (congrArg some (by kernel_rfl))
 f307:=Tryz.func284.trans (congrArg some (by kernel_rfl))
 f308:=Tryz.func285.trans (congrArg some (by kernel_rfl))
 f309:=Tryz.func286.trans (congrArg some (by kernel_rfl))
 f310:=Tryz.func287.trans (congrArg some (by kernel_rfl))
 f329:=Tryz.func308.trans (congrArg some (by kernel_rfl))
 f330:=Tryz.func309.trans (congrArg some (by kernel_rfl))
 f333:=Tryz.func307.trans (congrArg some (by kernel_rfl))
 f334:=Tryz.func310.trans (congrArg some (by kernel_rfl))
 f335:=Tryz.func311.trans (congrArg some (by kernel_rfl))
 f336:=Tryz.func312.trans (congrArg some (by kernel_rfl))
 f344:=Tryz.func327.trans (congrArg some (by kernel_rfl))
 t0:=Tryz.underlying0
 a0:=Tryz.isAgg0
 z0:=Tryz.sizeOf0
 v0:=Tryz.zeroValue0
 t3:=Tryz.underlying3
 a3:=Tryz.isAgg3
 z3:=Tryz.sizeOf3
 v3:=Tryz.zeroValue3
 t4:=Tryz.underlying4
 a4:=Tryz.isAgg4
 z4:=Tryz.sizeOf4
 v4:=Tryz.zeroValue4
 t5:=Tryz.underlying5
 a5:=Tryz.isAgg5
 z5:=Tryz.sizeOf5
 v5:=Tryz.zeroValue5
 t9:=Tryz.underlying9
 a9:=Tryz.isAgg9
 z9:=Tryz.sizeOf9
 v9:=Tryz.zeroValue9
 t31:=Tryz.underlying33
 a31:=Tryz.isAgg33
 z31:=Tryz.sizeOf33
 v31:=Tryz.zeroValue33
 t46:=Tryz.underlying318
 a46:=Tryz.isAgg318
 z46:=Tryz.sizeOf318
 v46:=Tryz.zeroValue318
 t51:=Tryz.underlying369
 a51:=Tryz.isAgg369
 z51:=Tryz.sizeOf369
 v51:=Tryz.zeroValue369
 t53:=Tryz.underlying355
 a53:=Tryz.isAgg355
 z53:=Tryz.sizeOf355
 v53:=Tryz.zeroValue355
 t131:=Tryz.underlying122
 a131:=Tryz.isAgg122
 z131:=Tryz.sizeOf122
 v131:=Tryz.zeroValue122
 t182:=Tryz.underlying362
 a182:=Tryz.isAgg362
 z182:=Tryz.sizeOf362
 v182:=Tryz.zeroValue362
 t183:=Tryz.underlying363
 a183:=Tryz.isAgg363
 z183:=Tryz.sizeOf363
 v183:=Tryz.zeroValue363
 t218:=Tryz.underlying397
 a218:=Tryz.isAgg397
 z218:=Tryz.sizeOf397
 v218:=Tryz.zeroValue397
 t222:=Tryz.underlying236
 a222:=Tryz.isAgg236
 z222:=Tryz.sizeOf236
 v222:=Tryz.zeroValue236
 t228:=Tryz.underlying414
 a228:=Tryz.isAgg414
 z228:=Tryz.sizeOf414
 v228:=Tryz.zeroValue414
 t229:=Tryz.underlying415
 a229:=Tryz.isAgg415
 z229:=Tryz.sizeOf415
 v229:=Tryz.zeroValue415 }
open Go.Sort Go.RowKit in
theorem Tryz.slices_Sort_string (blk off cap : Nat) (ss : List (List UInt8)) (w : World) (hH : Holds encStr w blk off ss.toArray) (hblk : blk < w.heap.size) (hsz : ss.length < 4611686018427387904) :
  Calls Tryz.prog 215 #[.slice (some ⟨blk,off,none⟩) ss.length cap] w fun e w' =>
   e=.returned (.tuple #[])∧∃ n os,w'=grow (putRow encStr (Sort.ahead w n) blk off (ss.mergeSort fun x y=>decide (x≤y)).toArray) os:=Any.slices_Sort_string Tryz.lays190 blk off cap ss w hH hblk hsz
def Tryz.lays153_ren:Go.Shelf.Ren:=⟨fun | 153=>98 | 152=>161 | 226=>162 | 227=>163 | 228=>164 | 137=>169 | 119=>227 | 224=>228 | 225=>229 | 217=>231 | 266=>266 | n=>n,fun | 9=>9 | 3=>3 | 4=>4 | 5=>5 | 21=>21 | 117=>264 | 116=>263 | 0=>0 | 46=>318 | 124=>319 | n=>n,fun | n=>n⟩
theorem Tryz.lays153:Go.Proofs.Lays.n153 Tryz.prog Tryz.lays153_ren:={
 mixed:=by kernel_rfl
 f119:=Tryz.func227.trans (congrArg some (by kernel_rfl))
 f137:=Tryz.func169.trans (congrArg some (by kernel_rfl))
 f152:=Tryz.func161.trans (congrArg some (by kernel_rfl))
 f153:=Tryz.func98.trans (congrArg some (by kernel_rfl))
 f217:=Tryz.func231.trans (congrArg some (by kernel_rfl))
 f224:=Tryz.func228.trans (congrArg some (by kernel_rfl))
 f225:=Tryz.func229.trans (congrArg some (by kernel_rfl))
 f226:=Tryz.func162.trans (congrArg some (by kernel_rfl))
 f227:=Tryz.func163.trans (congrArg some (by kernel_rfl))
 f228:=Tryz.func164.trans (congrArg some (by kernel_rfl))
 f266:=Tryz.func266.trans (congrArg some (by kernel_rfl))
 t0:=Tryz.underlying0
 a0:=Tryz.isAgg0
 z0:=Tryz.sizeOf0
 v0:=Tryz.zeroValue0
 t3:=Tryz.underlying3
 a3:=Tryz.isAgg3
 z3:=Tryz.sizeOf3
 v3:=Tryz.zeroValue3
 t4:=Tryz.underlying4
 a4:=Tryz.isAgg4
 z4:=Tryz.sizeOf4
 v4:=Tryz.zeroValue4
 t5:=Tryz.underlying5
 a5:=Tryz.isAgg5
 z5:=Tryz.sizeOf5
 v5:=Tryz.zeroValue5
 t9:=Tryz.underlying9
 a9:=Tryz.isAgg9
 z9:=Tryz.sizeOf9
 v9:=Tryz.zeroValue9
 t21:=Tryz.underlying21
 a21:=Tryz.isAgg21
 z21:=Tryz.sizeOf21
 v21:=Tryz.zeroValue21
 t46:=Tryz.underlying318
 a46:=Tryz.isAgg318
 z46:=Tryz.sizeOf318
 v46:=Tryz.zeroValue318
 t116:=Tryz.underlying263
 a116:=Tryz.isAgg263
 z116:=Tryz.sizeOf263
 t117:=Tryz.underlying264
 a117:=Tryz.isAgg264
 z117:=Tryz.sizeOf264
 v117:=Tryz.zeroValue264
 t124:=Tryz.underlying319
 a124:=Tryz.isAgg319
 z124:=Tryz.sizeOf319
 v124:=Tryz.zeroValue319 }
def Tryz.lays227_ren:Go.Shelf.Ren:=⟨fun | 227=>163 | n=>n,fun | 9=>9 | 116=>263 | 4=>4 | 0=>0 | 3=>3 | 5=>5 | n=>n,fun | n=>n⟩
theorem Tryz.lays227:Go.Proofs.Lays.n227 Tryz.prog Tryz.lays227_ren:={
 mixed:=by kernel_rfl
 f227:=Tryz.func163.trans (congrArg some (by kernel_rfl))
 t0:=Tryz.underlying0
 a0:=Tryz.isAgg0
 z0:=Tryz.sizeOf0
 v0:=Tryz.zeroValue0
 t3:=Tryz.underlying3
 a3:=Tryz.isAgg3
 z3:=Tryz.sizeOf3
 v3:=Tryz.zeroValue3
 t4:=Tryz.underlying4
 a4:=Tryz.isAgg4
 z4:=Tryz.sizeOf4
 v4:=Tryz.zeroValue4
 t5:=Tryz.underlying5
 a5:=Tryz.isAgg5
 z5:=Tryz.sizeOf5
 v5:=Tryz.zeroValue5
 t9:=Tryz.underlying9
 a9:=Tryz.isAgg9
 z9:=Tryz.sizeOf9
 v9:=Tryz.zeroValue9
 t116:=Tryz.underlying263
 a116:=Tryz.isAgg263
 z116:=Tryz.sizeOf263 }
open Go.RowKit Go.Lib in
theorem Tryz.strings_makeASCIISet (hv116 : ∀ w, (zeroValue 263).run Tryz.prog w = .ok (.agg (Array.replicate 256 (.bool false))) w) (chars : ByteArray) (w : World) (hs : chars.size < 4294967281) (hascii : ∀ (j : Nat) b, chars.data.toList[j]? = some b → b.toNat < 128) :
  Calls Tryz.prog 163 #[.string chars] w fun e w'=>e=.returned (.tuple #[.agg (Lib.setCells chars.data.toList),.bool true])∧w'=w.alloc (.cells (Lib.setCells chars.data.toList) 263):=Any.strings_makeASCIISet Tryz.lays227 hv116 (by kernel_rfl) chars w hs hascii
def Tryz.lays228_ren:Go.Shelf.Ren:=⟨fun | 228=>164 | n=>n,fun | 124=>319 | 5=>5 | 4=>4 | 0=>0 | 116=>263 | n=>n,fun | n=>n⟩
theorem Tryz.lays228:Go.Proofs.Lays.n228 Tryz.prog Tryz.lays228_ren:={
 mixed:=by kernel_rfl
 f228:=Tryz.func164.trans (congrArg some (by kernel_rfl))
 t0:=Tryz.underlying0
 a0:=Tryz.isAgg0
 z0:=Tryz.sizeOf0
 v0:=Tryz.zeroValue0
 t4:=Tryz.underlying4
 a4:=Tryz.isAgg4
 z4:=Tryz.sizeOf4
 v4:=Tryz.zeroValue4
 t5:=Tryz.underlying5
 a5:=Tryz.isAgg5
 z5:=Tryz.sizeOf5
 v5:=Tryz.zeroValue5
 t116:=Tryz.underlying263
 a116:=Tryz.isAgg263
 z116:=Tryz.sizeOf263
 t124:=Tryz.underlying319
 a124:=Tryz.isAgg319
 z124:=Tryz.sizeOf319
 v124:=Tryz.zeroValue319 }
open Go.RowKit Go.Lib in
theorem Tryz.asciiSet_contains (b : Nat) (x : UInt8) (v : Bool) (w : World) (hc : w.cell? ⟨b, x.toNat, none⟩ = some (.bool v)) :
  Calls Tryz.prog 164 #[.pointer (some ⟨b,0,none⟩),.int .u8 x.toNat] w fun e w'=>e=.returned (.bool v)∧w'=w:=Any.asciiSet_contains Tryz.lays228 b x v w hc
open Go.RowKit Go.Lib in
theorem Tryz.strings_IndexAny (hv116 : ∀ w, (zeroValue 263).run Tryz.prog w = .ok (.agg (Array.replicate 256 (.bool false))) w) (s chars : ByteArray) (w : World) (hs : s.size < 4294967281) (hcs : chars.size < 4294967281) (has : ∀ (j : Nat) b, s.data.toList[j]? = some b → b.toNat < 128) (hac : ∀ (j : Nat) b, chars.data.toList[j]? = some b → b.toNat < 128) :
  Calls Tryz.prog 98 #[.string s,.string chars] w fun e w'=>e=.returned (.int .i64 (Lib.indexAny s.data.toList chars.data.toList))∧Below w.heap.size w w':=Any.strings_IndexAny Tryz.lays153 hv116 (by kernel_rfl) s chars w hs hcs has hac
def Tryz.lays194_ren:Go.Shelf.Ren:=⟨fun | 194=>216 | n=>n,fun | 31=>33 | 9=>9 | 3=>3 | 4=>4 | 0=>0 | n=>n,fun | n=>n⟩
theorem Tryz.lays194:Go.Proofs.Lays.n194 Tryz.prog Tryz.lays194_ren:={
 mixed:=by kernel_rfl
 f194:=Tryz.func216.trans (congrArg some (by kernel_rfl))
 t0:=Tryz.underlying0
 a0:=Tryz.isAgg0
 z0:=Tryz.sizeOf0
 v0:=Tryz.zeroValue0
 t3:=Tryz.underlying3
 a3:=Tryz.isAgg3
 z3:=Tryz.sizeOf3
 v3:=Tryz.zeroValue3
 t4:=Tryz.underlying4
 a4:=Tryz.isAgg4
 z4:=Tryz.sizeOf4
 v4:=Tryz.zeroValue4
 t9:=Tryz.underlying9
 a9:=Tryz.isAgg9
 z9:=Tryz.sizeOf9
 v9:=Tryz.zeroValue9
 t31:=Tryz.underlying33
 a31:=Tryz.isAgg33
 z31:=Tryz.sizeOf33
 v31:=Tryz.zeroValue33 }
open Go.RowKit Go.Lib Go.Sort in
theorem Tryz.slices_Compact_string (blk off cap : Nat) (zs : List (List UInt8)) (w : World) (hH : Holds encStr w blk off zs.toArray) (hsz : zs.length ≤ 9223372036854775807) (hcap : zs.length ≤ cap) :
  Calls Tryz.prog 216 #[.slice (some ⟨blk,off,none⟩) zs.length cap] w fun e w'=>e=.returned (.slice (some ⟨blk,off,none⟩) (Lib.compact zs).length cap)∧∃ q,w'=putRow encStr (Sort.ahead w q) blk off (Lib.compact zs++List.replicate (zs.length - (Lib.compact zs).length) []).toArray:=Any.slices_Compact_string Tryz.lays194 blk off cap zs w hH hsz hcap
open Go.RowKit Go.Lib Go.Sort in
theorem Tryz.slices_Compact_string_empty (a : Option Addr) (cap : Nat) (w : World) :
  Calls Tryz.prog 216 #[.slice a 0 cap] w fun e w'=>e=.returned (.slice a 0 cap)∧w'=w:=Any.slices_Compact_string_empty Tryz.lays194 a cap w
open Go.RowKit Go.Sort in
theorem Tryz.slices_Sort_string_none (p : Option Addr) (cap : Nat) (w : World) :
  Calls Tryz.prog 215 #[.slice p 0 cap] w fun e w'=>e=.returned (.tuple #[])∧w'=w:=Any.slices_Sort_string_none Tryz.lays190 p cap w
end Go.Proofs
