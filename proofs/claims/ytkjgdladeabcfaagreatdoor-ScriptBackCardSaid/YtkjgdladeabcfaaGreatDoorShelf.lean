/- Contracts of the library. -/
import Derived.Shelf.Strings.OnBuilder
import Derived.Shelf.Small.Strs
import Derived.Shelf.Strconv.Itoa3
import Derived.Shelf.Strings.Search1
import Derived.Shelf.Strings.Search2
import Derived.Shelf.Sort.Plain
import Derived.Shelf.Strings.AsciiSet
import Derived.Shelf.Strings.IndexAnyAll
import Derived.Shelf.Slices.CompactS
import Derived.Shelf.Slices.In.SortNone
import Derived.Test.YtkjgdladeabcfaaGreatDoorProg
namespace Go.Proofs
open Go.Shelf
def Tryz.lays156_ren:Go.Shelf.Ren:=⟨fun | 156=>45 | 165=>77 | 166=>12 | 169=>14 | 240=>19 | 241=>141 | 276=>32 | 277=>215 | n=>n,fun | 31=>87 | 9=>9 | 3=>3 | 4=>4 | 0=>0 | 20=>20 | 72=>33 | 76=>36 | 70=>31 | 37=>27 | 75=>35 | 127=>51 | 164=>66 | 5=>5 | 80=>39 | n=>n,fun | n=>n⟩
theorem Tryz.lays156:Go.Proofs.Lays.n156 Tryz.prog Tryz.lays156_ren:={
  mixed:=by kernel_rfl
  f156:=Tryz.func45.trans (congrArg some (by kernel_rfl))
  f165:=Tryz.func77.trans (congrArg some (by kernel_rfl))
  f166:=Tryz.func12.trans (congrArg some (by kernel_rfl))
  f169:=Tryz.func14.trans (congrArg some (by kernel_rfl))
  f240:=Tryz.func19.trans (congrArg some (by kernel_rfl))
  f241:=Tryz.func141.trans (congrArg some (by kernel_rfl))
  f276:=Tryz.func32.trans (congrArg some (by kernel_rfl))
  f277:=Tryz.func215.trans (congrArg some (by kernel_rfl))
  t0:=Tryz.underlying0
  a0:=Tryz.isAgg0
  z0:=Tryz.sizeOf0
  v0:=Tryz.zeroValue0
  t3:=Tryz.underlying3
  a3:=Tryz.isAgg3
  z3:=Tryz.sizeOf3
  v3:=Tryz.zeroValue3
  t4:=Tryz.underlying4
  a4:=Tryz.isAgg4
  z4:=Tryz.sizeOf4
  v4:=Tryz.zeroValue4
  t9:=Tryz.underlying9
  a9:=Tryz.isAgg9
  z9:=Tryz.sizeOf9
  v9:=Tryz.zeroValue9
  t20:=Tryz.underlying20
  a20:=Tryz.isAgg20
  z20:=Tryz.sizeOf20
  v20:=Tryz.zeroValue20
  t31:=Tryz.underlying87
  a31:=Tryz.isAgg87
  z31:=Tryz.sizeOf87
  v31:=Tryz.zeroValue87
  t37:=Tryz.underlying27
  a37:=Tryz.isAgg27
  z37:=Tryz.sizeOf27
  v37:=Tryz.zeroValue27
  t70:=Tryz.underlying31
  a70:=Tryz.isAgg31
  z70:=Tryz.sizeOf31
  v70:=Tryz.zeroValue31
  t72:=Tryz.underlying33
  a72:=Tryz.isAgg33
  z72:=Tryz.sizeOf33
  v72:=Tryz.zeroValue33
  t75:=Tryz.underlying35
  a75:=Tryz.isAgg35
  z75:=Tryz.sizeOf35
  v75:=Tryz.zeroValue35
  t76:=Tryz.underlying36
  a76:=Tryz.isAgg36
  z76:=Tryz.sizeOf36
  v76:=Tryz.zeroValue36
  t127:=Tryz.underlying51
  a127:=Tryz.isAgg51
  z127:=Tryz.sizeOf51
  v127:=Tryz.zeroValue51
  t164:=Tryz.underlying66
  a164:=Tryz.isAgg66
  z164:=Tryz.sizeOf66
  v164:=Tryz.zeroValue66 }
theorem Tryz.Builder_Extra_156:Builder.Extra Tryz.prog Tryz.lays156_ren:={
  sizeBuilder:=by kernel_rfl
  liesBuilder:=by kernel_rfl
  t5:=Tryz.underlying5
  a5:=Tryz.isAgg5
  z5:=Tryz.sizeOf5
  v5:=Tryz.zeroValue5
  infoByte:=by kernel_rfl
  cellsByte:=by kernel_rfl
  sizeByte:=by kernel_rfl
  neB5:=by decide }
open Go.RowKit in
theorem Tryz.strings_Join_none (a : Option Addr) (c : Nat) (sep : ByteArray) (w : World) :
    Calls Tryz.prog 45 #[.slice a 0 c,.string sep] w fun e w'=>e=.returned (.string ⟨#[]⟩)∧w'=w:=Any.strings_Join_none Tryz.lays156 Tryz.Builder_Extra_156 a c sep w
open Go.RowKit in
theorem Tryz.strings_Join (bk o c : Nat) (xs : List ByteArray) (sep : ByteArray) (w : World) (hcells : ∀ (j : Nat) x, xs[j]? = some x → w.cell? ⟨bk, o + j, none⟩ = some (.string x)) (hbk : bk < w.heap.size) (hN : xs.length ≤ 140737488355328) (hcap : xs.length ≤ c) (hlen : (Lib.join (xs.map (·.data.toList)) sep.data.toList).length ≤ 140737488355328) :
    Calls Tryz.prog 45 #[.slice (some ⟨bk,o,none⟩) xs.length c,.string sep] w fun e w'=>e=.returned (.string ⟨(Lib.join (xs.map (·.data.toList)) sep.data.toList).toArray⟩)∧Below w.heap.size w w':=Any.strings_Join Tryz.lays156 Tryz.Builder_Extra_156 bk o c xs sep w hcells hbk hN hcap hlen
def Tryz.lays137_ren:Go.Shelf.Ren:=⟨fun | 137=>144 | 217=>84 | 266=>146 | n=>n,fun | 9=>9 | 5=>5 | 3=>3 | n=>n,fun | n=>n⟩
theorem Tryz.lays137:Go.Proofs.Lays.n137 Tryz.prog Tryz.lays137_ren:={
  mixed:=by kernel_rfl
  f137:=Tryz.func144.trans (congrArg some (by kernel_rfl))
  f217:=Tryz.func84.trans (congrArg some (by kernel_rfl))
  f266:=Tryz.func146.trans (congrArg some (by kernel_rfl))
  t3:=Tryz.underlying3
  a3:=Tryz.isAgg3
  z3:=Tryz.sizeOf3
  v3:=Tryz.zeroValue3
  t5:=Tryz.underlying5
  a5:=Tryz.isAgg5
  z5:=Tryz.sizeOf5
  v5:=Tryz.zeroValue5
  t9:=Tryz.underlying9
  a9:=Tryz.isAgg9
  z9:=Tryz.sizeOf9
  v9:=Tryz.zeroValue9 }
open Go.RowKit in
theorem Tryz.strings_IndexByte (s : ByteArray) (c : Int) (w : World) :
    Calls Tryz.prog 144 #[.string s,.int .u8 c] w fun e w'=>e=.returned (.int .i64 (Lib.indexByte s.data.toList c.toNat.toUInt8))∧w'=w:=Any.strings_IndexByte Tryz.lays137 s c w
def Tryz.laysM171_ren:Go.Shelf.Ren:=⟨fun | 171=>75 | 243=>136 | 246=>76 | 283=>137 | 284=>138 | 285=>139 | 286=>140 | 129=>211 | 317=>210 | 318=>212 | 319=>213 | 320=>214 | 337=>273 | 338=>274 | n=>n,fun | 3=>3 | 9=>9 | 2=>2 | 4=>4 | 171=>212 | 0=>0 | 53=>47 | 37=>27 | 5=>5 | 173=>215 | 212=>311 | 51=>226 | 20=>20 | 213=>312 | 46=>40 | 232=>382 | 233=>383 | n=>n,fun | 17=>7 | 18=>10 | 19=>11 | n=>n⟩
theorem Tryz.laysM171:Go.Proofs.LaysM.n171 Tryz.prog Tryz.laysM171_ren:={
  mixed:=by kernel_rfl
  f129:=Tryz.func211.trans (congrArg some (by kernel_rfl))
  f171:=Tryz.func75.trans (congrArg some (by kernel_rfl))
  f243:=Tryz.func136.trans (congrArg some (by kernel_rfl))
  f246:=Tryz.func76.trans (congrArg some (by kernel_rfl))
  f283:=Tryz.func137.trans (congrArg some (by kernel_rfl))
  f284:=Tryz.func138.trans (congrArg some (by kernel_rfl))
  f285:=Tryz.func139.trans (congrArg some (by kernel_rfl))
  f286:=Tryz.func140.trans (congrArg some (by kernel_rfl))
  f317:=Tryz.func210.trans (congrArg some (by kernel_rfl))
  f318:=Tryz.func212.trans (congrArg some (by kernel_rfl))
  f319:=Tryz.func213.trans (congrArg some (by kernel_rfl))
  f320:=Tryz.func214.trans (congrArg some (by kernel_rfl))
  f337:=Tryz.func273.trans (congrArg some (by kernel_rfl))
  f338:=Tryz.func274.trans (congrArg some (by kernel_rfl))
  t0:=Tryz.underlying0
  a0:=Tryz.isAgg0
  z0:=Tryz.sizeOf0
  v0:=Tryz.zeroValue0
  t2:=Tryz.underlying2
  a2:=Tryz.isAgg2
  z2:=Tryz.sizeOf2
  v2:=Tryz.zeroValue2
  t3:=Tryz.underlying3
  a3:=Tryz.isAgg3
  z3:=Tryz.sizeOf3
  v3:=Tryz.zeroValue3
  t4:=Tryz.underlying4
  a4:=Tryz.isAgg4
  z4:=Tryz.sizeOf4
  v4:=Tryz.zeroValue4
  t5:=Tryz.underlying5
  a5:=Tryz.isAgg5
  z5:=Tryz.sizeOf5
  v5:=Tryz.zeroValue5
  t9:=Tryz.underlying9
  a9:=Tryz.isAgg9
  z9:=Tryz.sizeOf9
  v9:=Tryz.zeroValue9
  t20:=Tryz.underlying20
  a20:=Tryz.isAgg20
  z20:=Tryz.sizeOf20
  v20:=Tryz.zeroValue20
  t37:=Tryz.underlying27
  a37:=Tryz.isAgg27
  z37:=Tryz.sizeOf27
  v37:=Tryz.zeroValue27
  t46:=Tryz.underlying40
  a46:=Tryz.isAgg40
  z46:=Tryz.sizeOf40
  v46:=Tryz.zeroValue40
  t51:=Tryz.underlying226
  a51:=Tryz.isAgg226
  z51:=Tryz.sizeOf226
  v51:=Tryz.zeroValue226
  t53:=Tryz.underlying47
  a53:=Tryz.isAgg47
  z53:=Tryz.sizeOf47
  v53:=Tryz.zeroValue47
  t171:=Tryz.underlying212
  a171:=Tryz.isAgg212
  z171:=Tryz.sizeOf212
  v171:=Tryz.zeroValue212
  t173:=Tryz.underlying215
  a173:=Tryz.isAgg215
  z173:=Tryz.sizeOf215
  v173:=Tryz.zeroValue215
  t212:=Tryz.underlying311
  a212:=Tryz.isAgg311
  z212:=Tryz.sizeOf311
  v212:=Tryz.zeroValue311
  t213:=Tryz.underlying312
  a213:=Tryz.isAgg312
  z213:=Tryz.sizeOf312
  t232:=Tryz.underlying382
  a232:=Tryz.isAgg382
  z232:=Tryz.sizeOf382
  v232:=Tryz.zeroValue382
  t233:=Tryz.underlying383
  a233:=Tryz.isAgg383
  z233:=Tryz.sizeOf383
  v233:=Tryz.zeroValue383
  g17:=by kernel_rfl
  g18:=by kernel_rfl
  g19:=by kernel_rfl
  i0:=by kernel_rfl
  i2:=by kernel_rfl
  i3:=by kernel_rfl
  i4:=by kernel_rfl
  i5:=by kernel_rfl
  i9:=by kernel_rfl
  i20:=by kernel_rfl
  i37:=by kernel_rfl
  i46:=by kernel_rfl
  i51:=by kernel_rfl
  i53:=by kernel_rfl
  i171:=by kernel_rfl
  i173:=by kernel_rfl
  i212:=by kernel_rfl
  i232:=by kernel_rfl
  i233:=by kernel_rfl
  m17:=by kernel_rfl
  m18:=by kernel_rfl
  m19:=by kernel_rfl }
open Go.RowKit Go.Sort Go.Lib in
theorem Tryz.strconv_Itoa (n : Int) (h0 : -9223372036854775808 ≤ n) (h1 : n ≤ 9223372036854775807) (w : World) (htab : Lib.TabIs Tryz.prog w "internal/strconv.uint64pow10" .u64 Lib.pow10Tab) :
    Calls Tryz.prog 75 #[.int .i64 n] w fun e w'=>e=.returned (.string ⟨(Lib.itoa n).toArray⟩)∧∃ k os,w'=grow (w.drewN k) os:=Any.strconv_Itoa Tryz.laysM171 n h0 h1 w htab
def Tryz.lays217_ren:Go.Shelf.Ren:=⟨fun | 217=>84 | 266=>146 | n=>n,fun | 9=>9 | 5=>5 | 3=>3 | n=>n,fun | n=>n⟩
theorem Tryz.lays217:Go.Proofs.Lays.n217 Tryz.prog Tryz.lays217_ren:={
  mixed:=by kernel_rfl
  f217:=Tryz.func84.trans (congrArg some (by kernel_rfl))
  f266:=Tryz.func146.trans (congrArg some (by kernel_rfl))
  t3:=Tryz.underlying3
  a3:=Tryz.isAgg3
  z3:=Tryz.sizeOf3
  v3:=Tryz.zeroValue3
  t5:=Tryz.underlying5
  a5:=Tryz.isAgg5
  z5:=Tryz.sizeOf5
  v5:=Tryz.zeroValue5
  t9:=Tryz.underlying9
  a9:=Tryz.isAgg9
  z9:=Tryz.sizeOf9
  v9:=Tryz.zeroValue9 }
open Go.RowKit Go.Lib in
theorem Tryz.stringslite_IndexByte (s : ByteArray) (c : Int) (w : World) :
    Calls Tryz.prog 84 #[.string s,.int .u8 c] w fun e w'=>e=.returned (.int .i64 (Lib.indexByte s.data.toList c.toNat.toUInt8))∧w'=w:=Any.stringslite_IndexByte Tryz.lays217 s c w
def Tryz.lays219_ren:Go.Shelf.Ren:=⟨fun | 219=>58 | 217=>84 | 225=>85 | 224=>86 | 267=>87 | 266=>146 | 314=>147 | n=>n,fun | 9=>9 | 3=>3 | 4=>4 | 5=>5 | 46=>40 | 146=>227 | 51=>226 | n=>n,fun | 1=>2 | n=>n⟩
theorem Tryz.lays219:Go.Proofs.Lays.n219 Tryz.prog Tryz.lays219_ren:={
  mixed:=by kernel_rfl
  f217:=Tryz.func84.trans (congrArg some (by kernel_rfl))
  f219:=Tryz.func58.trans (congrArg some (by kernel_rfl))
  f224:=Tryz.func86.trans (congrArg some (by kernel_rfl))
  f225:=Tryz.func85.trans (congrArg some (by kernel_rfl))
  f266:=Tryz.func146.trans (congrArg some (by kernel_rfl))
  f267:=Tryz.func87.trans (congrArg some (by kernel_rfl))
  f314:=Tryz.func147.trans (congrArg some (by kernel_rfl))
  t3:=Tryz.underlying3
  a3:=Tryz.isAgg3
  z3:=Tryz.sizeOf3
  v3:=Tryz.zeroValue3
  t4:=Tryz.underlying4
  a4:=Tryz.isAgg4
  z4:=Tryz.sizeOf4
  v4:=Tryz.zeroValue4
  t5:=Tryz.underlying5
  a5:=Tryz.isAgg5
  z5:=Tryz.sizeOf5
  v5:=Tryz.zeroValue5
  t9:=Tryz.underlying9
  a9:=Tryz.isAgg9
  z9:=Tryz.sizeOf9
  v9:=Tryz.zeroValue9
  t46:=Tryz.underlying40
  a46:=Tryz.isAgg40
  z46:=Tryz.sizeOf40
  v46:=Tryz.zeroValue40
  t51:=Tryz.underlying226
  a51:=Tryz.isAgg226
  z51:=Tryz.sizeOf226
  v51:=Tryz.zeroValue226
  t146:=Tryz.underlying227
  a146:=Tryz.isAgg227
  z146:=Tryz.sizeOf227
  v146:=Tryz.zeroValue227
  g1:=by kernel_rfl }
open Go.RowKit Go.Lib in
theorem Tryz.stringslite_Index_one (s : ByteArray) (c : UInt8) (w : World) :
    Calls Tryz.prog 58 #[.string s,.string ⟨#[c]⟩] w fun e w'=>e=.returned (.int .i64 (Lib.indexByte s.data.toList c))∧w'=w:=Any.stringslite_Index_one Tryz.lays219 s c w
def Tryz.lays190_ren:Go.Shelf.Ren:=⟨fun | 190=>262 | 125=>293 | 258=>292 | 128=>318 | 129=>211 | 302=>309 | 303=>310 | 304=>311 | 305=>312 | 306=>313 | 307=>314 | 308=>315 | 309=>316 | 310=>317 | 333=>324 | 329=>325 | 330=>326 | 334=>327 | 335=>328 | 336=>329 | 344=>340 | n=>n,fun | 31=>87 | 9=>9 | 3=>3 | 46=>40 | 0=>0 | 51=>226 | 53=>47 | 4=>4 | 183=>392 | 182=>391 | 131=>74 | 5=>5 | 218=>412 | 222=>288 | 228=>428 | 229=>429 | n=>n,fun | n=>n⟩
theorem Tryz.lays190:Go.Proofs.Lays.n190 Tryz.prog Tryz.lays190_ren:={
  mixed:=by kernel_rfl
  f125:=Tryz.func293.trans (congrArg some (by kernel_rfl))
  f128:=Tryz.func318.trans (congrArg some (by kernel_rfl))
  f129:=Tryz.func211.trans (congrArg some (by kernel_rfl))
  f190:=Tryz.func262.trans (congrArg some (by kernel_rfl))
  f258:=Tryz.func292.trans (congrArg some (by kernel_rfl))
  f302:=Tryz.func309.trans (congrArg some (by kernel_rfl))
  f303:=Tryz.func310.trans (congrArg some (by kernel_rfl))
  f304:=Tryz.func311.trans (congrArg some (by kernel_rfl))
  f305:=Tryz.func312.trans (congrArg some (by kernel_rfl))
  f306:=Tryz.func313.trans (congrArg some (by kernel_rfl))
  f307:=Tryz.func314.trans (congrArg some (by kernel_rfl))
  f308:=Tryz.func315.trans (congrArg some (by kernel_rfl))
  f309:=Tryz.func316.trans (congrArg some (by kernel_rfl))
  f310:=Tryz.func317.trans (congrArg some (by kernel_rfl))
  f329:=Tryz.func325.trans (congrArg some (by kernel_rfl))
  f330:=Tryz.func326.trans (congrArg some (by kernel_rfl))
  f333:=Tryz.func324.trans (congrArg some (by kernel_rfl))
  f334:=Tryz.func327.trans (congrArg some (by kernel_rfl))
  f335:=Tryz.func328.trans (congrArg some (by kernel_rfl))
  f336:=Tryz.func329.trans (congrArg some (by kernel_rfl))
  f344:=Tryz.func340.trans (congrArg some (by kernel_rfl))
  t0:=Tryz.underlying0
  a0:=Tryz.isAgg0
  z0:=Tryz.sizeOf0
  v0:=Tryz.zeroValue0
  t3:=Tryz.underlying3
  a3:=Tryz.isAgg3
  z3:=Tryz.sizeOf3
  v3:=Tryz.zeroValue3
  t4:=Tryz.underlying4
  a4:=Tryz.isAgg4
  z4:=Tryz.sizeOf4
  v4:=Tryz.zeroValue4
  t5:=Tryz.underlying5
  a5:=Tryz.isAgg5
  z5:=Tryz.sizeOf5
  v5:=Tryz.zeroValue5
  t9:=Tryz.underlying9
  a9:=Tryz.isAgg9
  z9:=Tryz.sizeOf9
  v9:=Tryz.zeroValue9
  t31:=Tryz.underlying87
  a31:=Tryz.isAgg87
  z31:=Tryz.sizeOf87
  v31:=Tryz.zeroValue87
  t46:=Tryz.underlying40
  a46:=Tryz.isAgg40
  z46:=Tryz.sizeOf40
  v46:=Tryz.zeroValue40
  t51:=Tryz.underlying226
  a51:=Tryz.isAgg226
  z51:=Tryz.sizeOf226
  v51:=Tryz.zeroValue226
  t53:=Tryz.underlying47
  a53:=Tryz.isAgg47
  z53:=Tryz.sizeOf47
  v53:=Tryz.zeroValue47
  t131:=Tryz.underlying74
  a131:=Tryz.isAgg74
  z131:=Tryz.sizeOf74
  v131:=Tryz.zeroValue74
  t182:=Tryz.underlying391
  a182:=Tryz.isAgg391
  z182:=Tryz.sizeOf391
  v182:=Tryz.zeroValue391
  t183:=Tryz.underlying392
  a183:=Tryz.isAgg392
  z183:=Tryz.sizeOf392
  v183:=Tryz.zeroValue392
  t218:=Tryz.underlying412
  a218:=Tryz.isAgg412
  z218:=Tryz.sizeOf412
  v218:=Tryz.zeroValue412
  t222:=Tryz.underlying288
  a222:=Tryz.isAgg288
  z222:=Tryz.sizeOf288
  v222:=Tryz.zeroValue288
  t228:=Tryz.underlying428
  a228:=Tryz.isAgg428
  z228:=Tryz.sizeOf428
  v228:=Tryz.zeroValue428
  t229:=Tryz.underlying429
  a229:=Tryz.isAgg429
  z229:=Tryz.sizeOf429
  v229:=Tryz.zeroValue429 }
open Go.Sort Go.RowKit in
theorem Tryz.slices_Sort_string (blk off cap : Nat) (ss : List (List UInt8)) (w : World) (hH : Holds encStr w blk off ss.toArray) (hblk : blk < w.heap.size) (hsz : ss.length < 4611686018427387904) :
    Calls Tryz.prog 262 #[.slice (some ⟨blk,off,none⟩) ss.length cap] w fun e w' =>
      e=.returned (.tuple #[])∧∃ n os,w'=grow (putRow encStr (Sort.ahead w n) blk off (ss.mergeSort fun x y=>decide (x≤y)).toArray) os:=Any.slices_Sort_string Tryz.lays190 blk off cap ss w hH hblk hsz
def Tryz.lays153_ren:Go.Shelf.Ren:=⟨fun | 153=>151 | 152=>80 | 226=>217 | 227=>25 | 228=>47 | 137=>144 | 119=>145 | 224=>86 | 225=>85 | 217=>84 | 266=>146 | n=>n,fun | 9=>9 | 3=>3 | 4=>4 | 5=>5 | 21=>21 | 117=>61 | 116=>60 | 0=>0 | 46=>40 | 124=>64 | n=>n,fun | n=>n⟩
theorem Tryz.lays153:Go.Proofs.Lays.n153 Tryz.prog Tryz.lays153_ren:={
  mixed:=by kernel_rfl
  f119:=Tryz.func145.trans (congrArg some (by kernel_rfl))
  f137:=Tryz.func144.trans (congrArg some (by kernel_rfl))
  f152:=Tryz.func80.trans (congrArg some (by kernel_rfl))
  f153:=Tryz.func151.trans (congrArg some (by kernel_rfl))
  f217:=Tryz.func84.trans (congrArg some (by kernel_rfl))
  f224:=Tryz.func86.trans (congrArg some (by kernel_rfl))
  f225:=Tryz.func85.trans (congrArg some (by kernel_rfl))
  f226:=Tryz.func217.trans (congrArg some (by kernel_rfl))
  f227:=Tryz.func25.trans (congrArg some (by kernel_rfl))
  f228:=Tryz.func47.trans (congrArg some (by kernel_rfl))
  f266:=Tryz.func146.trans (congrArg some (by kernel_rfl))
  t0:=Tryz.underlying0
  a0:=Tryz.isAgg0
  z0:=Tryz.sizeOf0
  v0:=Tryz.zeroValue0
  t3:=Tryz.underlying3
  a3:=Tryz.isAgg3
  z3:=Tryz.sizeOf3
  v3:=Tryz.zeroValue3
  t4:=Tryz.underlying4
  a4:=Tryz.isAgg4
  z4:=Tryz.sizeOf4
  v4:=Tryz.zeroValue4
  t5:=Tryz.underlying5
  a5:=Tryz.isAgg5
  z5:=Tryz.sizeOf5
  v5:=Tryz.zeroValue5
  t9:=Tryz.underlying9
  a9:=Tryz.isAgg9
  z9:=Tryz.sizeOf9
  v9:=Tryz.zeroValue9
  t21:=Tryz.underlying21
  a21:=Tryz.isAgg21
  z21:=Tryz.sizeOf21
  v21:=Tryz.zeroValue21
  t46:=Tryz.underlying40
  a46:=Tryz.isAgg40
  z46:=Tryz.sizeOf40
  v46:=Tryz.zeroValue40
  t116:=Tryz.underlying60
  a116:=Tryz.isAgg60
  z116:=Tryz.sizeOf60
  t117:=Tryz.underlying61
  a117:=Tryz.isAgg61
  z117:=Tryz.sizeOf61
  v117:=Tryz.zeroValue61
  t124:=Tryz.underlying64
  a124:=Tryz.isAgg64
  z124:=Tryz.sizeOf64
  v124:=Tryz.zeroValue64 }
def Tryz.lays227_ren:Go.Shelf.Ren:=⟨fun | 227=>25 | n=>n,fun | 9=>9 | 116=>60 | 4=>4 | 0=>0 | 3=>3 | 5=>5 | n=>n,fun | n=>n⟩
theorem Tryz.lays227:Go.Proofs.Lays.n227 Tryz.prog Tryz.lays227_ren:={
  mixed:=by kernel_rfl
  f227:=Tryz.func25.trans (congrArg some (by kernel_rfl))
  t0:=Tryz.underlying0
  a0:=Tryz.isAgg0
  z0:=Tryz.sizeOf0
  v0:=Tryz.zeroValue0
  t3:=Tryz.underlying3
  a3:=Tryz.isAgg3
  z3:=Tryz.sizeOf3
  v3:=Tryz.zeroValue3
  t4:=Tryz.underlying4
  a4:=Tryz.isAgg4
  z4:=Tryz.sizeOf4
  v4:=Tryz.zeroValue4
  t5:=Tryz.underlying5
  a5:=Tryz.isAgg5
  z5:=Tryz.sizeOf5
  v5:=Tryz.zeroValue5
  t9:=Tryz.underlying9
  a9:=Tryz.isAgg9
  z9:=Tryz.sizeOf9
  v9:=Tryz.zeroValue9
  t116:=Tryz.underlying60
  a116:=Tryz.isAgg60
  z116:=Tryz.sizeOf60 }
open Go.RowKit Go.Lib in
theorem Tryz.strings_makeASCIISet (hv116 : ∀ w, (zeroValue 60).run Tryz.prog w = .ok (.agg (Array.replicate 256 (.bool false))) w) (chars : ByteArray) (w : World) (hs : chars.size < 4294967281) (hascii : ∀ (j : Nat) b, chars.data.toList[j]? = some b → b.toNat < 128) :
    Calls Tryz.prog 25 #[.string chars] w fun e w'=>e=.returned (.tuple #[.agg (Lib.setCells chars.data.toList),.bool true])∧w'=w.alloc (.cells (Lib.setCells chars.data.toList) 60):=Any.strings_makeASCIISet Tryz.lays227 hv116 (by kernel_rfl) chars w hs hascii
def Tryz.lays228_ren:Go.Shelf.Ren:=⟨fun | 228=>47 | n=>n,fun | 124=>64 | 5=>5 | 4=>4 | 0=>0 | 116=>60 | n=>n,fun | n=>n⟩
theorem Tryz.lays228:Go.Proofs.Lays.n228 Tryz.prog Tryz.lays228_ren:={
  mixed:=by kernel_rfl
  f228:=Tryz.func47.trans (congrArg some (by kernel_rfl))
  t0:=Tryz.underlying0
  a0:=Tryz.isAgg0
  z0:=Tryz.sizeOf0
  v0:=Tryz.zeroValue0
  t4:=Tryz.underlying4
  a4:=Tryz.isAgg4
  z4:=Tryz.sizeOf4
  v4:=Tryz.zeroValue4
  t5:=Tryz.underlying5
  a5:=Tryz.isAgg5
  z5:=Tryz.sizeOf5
  v5:=Tryz.zeroValue5
  t116:=Tryz.underlying60
  a116:=Tryz.isAgg60
  z116:=Tryz.sizeOf60
  t124:=Tryz.underlying64
  a124:=Tryz.isAgg64
  z124:=Tryz.sizeOf64
  v124:=Tryz.zeroValue64 }
open Go.RowKit Go.Lib in
theorem Tryz.asciiSet_contains (b : Nat) (x : UInt8) (v : Bool) (w : World) (hc : w.cell? ⟨b, x.toNat, none⟩ = some (.bool v)) :
    Calls Tryz.prog 47 #[.pointer (some ⟨b,0,none⟩),.int .u8 x.toNat] w fun e w'=>e=.returned (.bool v)∧w'=w:=Any.asciiSet_contains Tryz.lays228 b x v w hc
open Go.RowKit Go.Lib in
theorem Tryz.strings_IndexAny (hv116 : ∀ w, (zeroValue 60).run Tryz.prog w = .ok (.agg (Array.replicate 256 (.bool false))) w) (s chars : ByteArray) (w : World) (hs : s.size < 4294967281) (hcs : chars.size < 4294967281) (has : ∀ (j : Nat) b, s.data.toList[j]? = some b → b.toNat < 128) (hac : ∀ (j : Nat) b, chars.data.toList[j]? = some b → b.toNat < 128) :
    Calls Tryz.prog 151 #[.string s,.string chars] w fun e w'=>e=.returned (.int .i64 (Lib.indexAny s.data.toList chars.data.toList))∧Below w.heap.size w w':=Any.strings_IndexAny Tryz.lays153 hv116 (by kernel_rfl) s chars w hs hcs has hac
def Tryz.lays194_ren:Go.Shelf.Ren:=⟨fun | 194=>263 | n=>n,fun | 31=>87 | 9=>9 | 3=>3 | 4=>4 | 0=>0 | n=>n,fun | n=>n⟩
theorem Tryz.lays194:Go.Proofs.Lays.n194 Tryz.prog Tryz.lays194_ren:={
  mixed:=by kernel_rfl
  f194:=Tryz.func263.trans (congrArg some (by kernel_rfl))
  t0:=Tryz.underlying0
  a0:=Tryz.isAgg0
  z0:=Tryz.sizeOf0
  v0:=Tryz.zeroValue0
  t3:=Tryz.underlying3
  a3:=Tryz.isAgg3
  z3:=Tryz.sizeOf3
  v3:=Tryz.zeroValue3
  t4:=Tryz.underlying4
  a4:=Tryz.isAgg4
  z4:=Tryz.sizeOf4
  v4:=Tryz.zeroValue4
  t9:=Tryz.underlying9
  a9:=Tryz.isAgg9
  z9:=Tryz.sizeOf9
  v9:=Tryz.zeroValue9
  t31:=Tryz.underlying87
  a31:=Tryz.isAgg87
  z31:=Tryz.sizeOf87
  v31:=Tryz.zeroValue87 }
open Go.RowKit Go.Lib Go.Sort in
theorem Tryz.slices_Compact_string (blk off cap : Nat) (zs : List (List UInt8)) (w : World) (hH : Holds encStr w blk off zs.toArray) (hsz : zs.length ≤ 9223372036854775807) (hcap : zs.length ≤ cap) :
    Calls Tryz.prog 263 #[.slice (some ⟨blk,off,none⟩) zs.length cap] w fun e w'=>e=.returned (.slice (some ⟨blk,off,none⟩) (Lib.compact zs).length cap)∧∃ q,w'=putRow encStr (Sort.ahead w q) blk off (Lib.compact zs++List.replicate (zs.length - (Lib.compact zs).length) []).toArray:=Any.slices_Compact_string Tryz.lays194 blk off cap zs w hH hsz hcap
open Go.RowKit Go.Lib Go.Sort in
theorem Tryz.slices_Compact_string_empty (a : Option Addr) (cap : Nat) (w : World) :
    Calls Tryz.prog 263 #[.slice a 0 cap] w fun e w'=>e=.returned (.slice a 0 cap)∧w'=w:=Any.slices_Compact_string_empty Tryz.lays194 a cap w
open Go.RowKit Go.Sort in
theorem Tryz.slices_Sort_string_none (p : Option Addr) (cap : Nat) (w : World) :
    Calls Tryz.prog 262 #[.slice p 0 cap] w fun e w'=>e=.returned (.tuple #[])∧w'=w:=Any.slices_Sort_string_none Tryz.lays190 p cap w
end Go.Proofs
