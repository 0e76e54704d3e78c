/- A part. -/
import Derived.Test.YtipgfplekgdoiaaGreatDoorEng38
import Derived.Test.YtipgfplekgdoiaaGreatDoorEng33
import Derived.Test.YtipgfplekgdoiaaGreatDoorPure3
import Derived.Test.YtipgfplekgdoiaaGreatDoorProg
import Derived.Test.YtipgfplekgdoiaaGreatDoorShelf
import Derived.Test.YtipgfplekgdoiaaGreatDoorIxAny
import Derived.Shelf.Spec.SlicesInsertGrow
import Derived.Shelf.Spec.SlicesInsert
namespace Go.Proofs
set_option maxHeartbeats 4000000
set_option maxRecDepth 10000
open Go.Eng Go.Eng.Pure
instance:Und Tryz.prog 3 (.int .i64):=⟨Tryz.underlying3⟩
instance:Und Tryz.prog 4 .bool:=⟨Tryz.underlying4⟩
instance:Und Tryz.prog 5 (.int .u8):=⟨Tryz.underlying5⟩
instance:Und Tryz.prog 9 .string:=⟨Tryz.underlying9⟩
instance:Und Tryz.prog 22 (.slice 68):=⟨Tryz.underlying22⟩
instance:Und Tryz.prog 23 (.slice 36):=⟨Tryz.underlying23⟩
instance:Und Tryz.prog 26 (.slice 64):=⟨Tryz.underlying26⟩
instance:Und Tryz.prog 33 (.slice 34):=⟨Tryz.underlying33⟩
instance:Und Tryz.prog 34 (.slice 9):=⟨Tryz.underlying34⟩
instance:Und Tryz.prog 118 (.slice 3):=⟨Tryz.underlying118⟩
instance:Und Tryz.prog 122 (.slice 147):=⟨Tryz.underlying122⟩
instance:Und Tryz.prog 128 (.slice 5):=⟨Tryz.underlying128⟩
instance:Und Tryz.prog 154 (.int .i64):=⟨Tryz.underlying154⟩
instance:Und Tryz.prog 156 (.slice 161):=⟨Tryz.underlying156⟩
instance:Und Tryz.prog 184 (.pointer 186):=⟨Tryz.underlying184⟩
instance:Und Tryz.prog 212 (.pointer 5):=⟨Tryz.underlying212⟩
set_option linter.unusedVariables false
theorem lay9:lay Tryz.prog 9=some (false,1):=by kernel_rfl
instance:Lay Tryz.prog 9 (false,1):=⟨lay9⟩
theorem el34:Elem Tryz.prog 34 9 1:=zGu kr
theorem lay34:lay Tryz.prog 34=some (false,1):=by kernel_rfl
instance:Lay Tryz.prog 34 (false,1):=⟨lay34⟩
theorem el33:Elem Tryz.prog 33 34 1:=zGu kr
theorem zRj:fld Tryz.prog 64 0=some 0:=by kernel_rfl
instance:Fld Tryz.prog 64 0 0:=⟨zRj⟩
theorem zRz:fld Tryz.prog 64 1=some 1:=by kernel_rfl
instance:Fld Tryz.prog 64 1 1:=⟨zRz⟩
theorem el26:Elem Tryz.prog 26 64 2:=zGu kr
theorem zKB:fld Tryz.prog 36 0=some 0:=by kernel_rfl
instance:Fld Tryz.prog 36 0 0:=⟨zKB⟩
theorem lay33:lay Tryz.prog 33=some (false,1):=by kernel_rfl
instance:Lay Tryz.prog 33 (false,1):=⟨lay33⟩
theorem zCw:fld Tryz.prog 36 1=some 1:=by kernel_rfl
instance:Fld Tryz.prog 36 1 1:=⟨zCw⟩
theorem zC1:fld Tryz.prog 36 2=some 2:=by kernel_rfl
instance:Fld Tryz.prog 36 2 2:=⟨zC1⟩
theorem zR6:fld Tryz.prog 36 3=some 3:=by kernel_rfl
instance:Fld Tryz.prog 36 3 3:=⟨zR6⟩
theorem zRX:fld Tryz.prog 36 5=some 5:=by kernel_rfl
instance:Fld Tryz.prog 36 5 5:=⟨zRX⟩
theorem zCx:fld Tryz.prog 36 4=some 4:=by kernel_rfl
instance:Fld Tryz.prog 36 4 4:=⟨zCx⟩
theorem lay26:lay Tryz.prog 26=some (false,1):=by kernel_rfl
instance:Lay Tryz.prog 26 (false,1):=⟨lay26⟩
theorem zPq:fld Tryz.prog 68 0=some 0:=by kernel_rfl
instance:Fld Tryz.prog 68 0 0:=⟨zPq⟩
theorem zOy:fld Tryz.prog 68 1=some 1:=by kernel_rfl
instance:Fld Tryz.prog 68 1 1:=⟨zOy⟩
theorem el22:Elem Tryz.prog 22 68 2:=zGu kr
theorem zFh:fld Tryz.prog 25 1=some 1:=by kernel_rfl
instance:Fld Tryz.prog 25 1 1:=⟨zFh⟩
theorem lay23:lay Tryz.prog 23=some (false,1):=by kernel_rfl
instance:Lay Tryz.prog 23 (false,1):=⟨lay23⟩
theorem lay36:lay Tryz.prog 36=some (true,8):=by kernel_rfl
instance:Lay Tryz.prog 36 (true,8):=⟨lay36⟩
theorem el23:Elem Tryz.prog 23 36 8:=zGu kr
theorem zRp:fld Tryz.prog 25 0=some 0:=by kernel_rfl
instance:Fld Tryz.prog 25 0 0:=⟨zRp⟩
theorem lay22:lay Tryz.prog 22=some (false,1):=by kernel_rfl
instance:Lay Tryz.prog 22 (false,1):=⟨lay22⟩
theorem lay5:lay Tryz.prog 5=some (false,1):=by kernel_rfl
instance:Lay Tryz.prog 5 (false,1):=⟨lay5⟩
theorem el128:Elem Tryz.prog 128 5 1:=zGu kr
theorem lay64:lay Tryz.prog 64=some (true,2):=by kernel_rfl
instance:Lay Tryz.prog 64 (true,2):=⟨lay64⟩
theorem zer64:zer Tryz.prog 64=some [(str []),(str [])]:=by kernel_rfl
theorem zRF:zer Tryz.prog 168=some (List.replicate 256 (boo false)):=by kernel_rfl
theorem zOu:lay Tryz.prog 168=some (true,256):=by kernel_rfl
instance:Lay Tryz.prog 168 (true,256):=⟨zOu⟩
theorem bp152:zE7 Tryz.prog 152=some []:=by kernel_rfl
theorem zSL:zer Tryz.prog 152=some []:=by kernel_rfl
theorem bp153:zE7 Tryz.prog 153=some []:=by kernel_rfl
theorem zSK:zer Tryz.prog 153=some []:=by kernel_rfl
theorem bp155:zE7 Tryz.prog 155=some []:=by kernel_rfl
theorem zR9:zer Tryz.prog 155=some []:=by kernel_rfl
theorem bp161:zE7 Tryz.prog 161=some [(0,1),(1,1)]:=by kernel_rfl
theorem zKn:zer Tryz.prog 161=some [(str []),(str [])]:=by kernel_rfl
theorem el156:Elem Tryz.prog 156 161 2:=zGu kr
theorem bp158:zE7 Tryz.prog 158=some [(0,1),(1,1),(2,1)]:=by kernel_rfl
theorem zDQ:zer Tryz.prog 158=some [(str []),(str []),(.slice none 0 0)]:=by kernel_rfl
theorem zA9:lay Tryz.prog 158=some (true,3):=by kernel_rfl
instance:Lay Tryz.prog 158 (true,3):=⟨zA9⟩
theorem zQH:fld Tryz.prog 158 0=some 0:=by kernel_rfl
instance:Fld Tryz.prog 158 0 0:=⟨zQH⟩
theorem zQY:fld Tryz.prog 158 1=some 1:=by kernel_rfl
instance:Fld Tryz.prog 158 1 1:=⟨zQY⟩
theorem zQ4:fld Tryz.prog 161 0=some 0:=by kernel_rfl
instance:Fld Tryz.prog 161 0 0:=⟨zQ4⟩
theorem zHU:lay Tryz.prog 161=some (true,2):=by kernel_rfl
instance:Lay Tryz.prog 161 (true,2):=⟨zHU⟩
theorem zQL:fld Tryz.prog 158 2=some 2:=by kernel_rfl
instance:Fld Tryz.prog 158 2 2:=⟨zQL⟩
theorem zHW:lay Tryz.prog 156=some (false,1):=by kernel_rfl
instance:Lay Tryz.prog 156 (false,1):=⟨zHW⟩
theorem zer9:zer Tryz.prog 9=some [(str [])]:=by kernel_rfl
theorem mz4:((Tryz.prog.info? 4).bind (·.zero))=some (boo false):=by kernel_rfl
theorem lay68:lay Tryz.prog 68=some (true,2):=by kernel_rfl
instance:Lay Tryz.prog 68 (true,2):=⟨lay68⟩
theorem zer68:zer Tryz.prog 68=some [(str []),(.slice none 0 0)]:=by kernel_rfl
theorem lay3:lay Tryz.prog 3=some (false,1):=by kernel_rfl
instance:Lay Tryz.prog 3 (false,1):=⟨lay3⟩
theorem zRI:zer Tryz.prog 236=some [(int 0),(int 0),(int 0),(int 0),(int 0)]:=by kernel_rfl
theorem inf3:∃ i,Tryz.prog.info? 3=some i:=Option.isSome_iff_exists.1 kr
theorem el118:Elem Tryz.prog 118 3 1:=zGu kr
theorem zRG:lay Tryz.prog 236=some (true,5):=by kernel_rfl
instance:Lay Tryz.prog 236 (true,5):=⟨zRG⟩
theorem zQ3:fld Tryz.prog 186 0=some 0:=by kernel_rfl
instance:Fld Tryz.prog 186 0 0:=⟨zQ3⟩
theorem zRQ:lay Tryz.prog 184=some (false,1):=by kernel_rfl
instance:Lay Tryz.prog 184 (false,1):=⟨zRQ⟩
theorem zRH:lay Tryz.prog 186=some (true,2):=by kernel_rfl
instance:Lay Tryz.prog 186 (true,2):=⟨zRH⟩
theorem zRO:∃ i,Tryz.prog.info? 186=some i:=Option.isSome_iff_exists.1 kr
theorem zSQ:Tryz.prog.cellsOf 186=2:=by kernel_rfl
theorem zF3:fld Tryz.prog 186 1=some 1:=by kernel_rfl
instance:Fld Tryz.prog 186 1 1:=⟨zF3⟩
theorem zRM:lay Tryz.prog 128=some (false,1):=by kernel_rfl
instance:Lay Tryz.prog 128 (false,1):=⟨zRM⟩
theorem zQz:fld Tryz.prog 161 1=some 1:=by kernel_rfl
instance:Fld Tryz.prog 161 1 1:=⟨zQz⟩
theorem ceo5:Tryz.prog.cellsOf 5=1:=by kernel_rfl
theorem zSC:zer Tryz.prog 186=some [(.pointer none),(.slice none 0 0)]:=by kernel_rfl
theorem mz237:((Tryz.prog.info? 237).bind (·.zero))=some .nilFunc:=by kernel_rfl
theorem bp147:zE7 Tryz.prog 147=some [(0,1),(1,1)]:=by kernel_rfl
theorem zG5:zer Tryz.prog 147=some [(str []),(int 0)]:=by kernel_rfl
theorem zDU:lay Tryz.prog 147=some (true,2):=by kernel_rfl
instance:Lay Tryz.prog 147 (true,2):=⟨zDU⟩
theorem el122:Elem Tryz.prog 122 147 2:=zGu kr
theorem zQc:fld Tryz.prog 147 0=some 0:=by kernel_rfl
instance:Fld Tryz.prog 147 0 0:=⟨zQc⟩
theorem zQN:fld Tryz.prog 147 1=some 1:=by kernel_rfl
instance:Fld Tryz.prog 147 1 1:=⟨zQN⟩
theorem zer3:zer Tryz.prog 3=some [(int 0)]:=by kernel_rfl
theorem zer34:zer Tryz.prog 34=some [(.slice none 0 0)]:=by kernel_rfl
theorem bp68:zE7 Tryz.prog 68=some [(0,1),(1,1)]:=by kernel_rfl
theorem zer36:zer Tryz.prog 36=some [(.slice none 0 0),(.slice none 0 0),(.slice none 0 0),(str []),(.slice none 0 0),(str []),(int 0),(int 0)]:=by kernel_rfl
theorem bp25:zE7 Tryz.prog 25=some [(0,1),(1,1)]:=by kernel_rfl
theorem zer25:zer Tryz.prog 25=some [(.slice none 0 0),(.slice none 0 0)]:=by kernel_rfl
theorem lay25:lay Tryz.prog 25=some (true,2):=by kernel_rfl
instance:Lay Tryz.prog 25 (true,2):=⟨lay25⟩
theorem bp36:zE7 Tryz.prog 36=some [(0,1),(1,1),(2,1),(3,1),(4,1),(5,1),(6,1),(7,1)]:=by kernel_rfl
theorem bp64:zE7 Tryz.prog 64=some [(0,1),(1,1)]:=by kernel_rfl
theorem zRk:fld Tryz.prog 52 0=some 0:=by kernel_rfl
instance:Fld Tryz.prog 52 0 0:=⟨zRk⟩
theorem zR0:fld Tryz.prog 52 1=some 1:=by kernel_rfl
instance:Fld Tryz.prog 52 1 1:=⟨zR0⟩
theorem zR3:fld Tryz.prog 52 3=some 3:=by kernel_rfl
instance:Fld Tryz.prog 52 3 3:=⟨zR3⟩
theorem zRq:fld Tryz.prog 52 4=some 4:=by kernel_rfl
instance:Fld Tryz.prog 52 4 4:=⟨zRq⟩
theorem zPO:fld Tryz.prog 54 2=some 2:=by kernel_rfl
instance:Fld Tryz.prog 54 2 2:=⟨zPO⟩
theorem zPn:fld Tryz.prog 54 3=some 3:=by kernel_rfl
instance:Fld Tryz.prog 54 3 3:=⟨zPn⟩
theorem zPY:fld Tryz.prog 54 4=some 4:=by kernel_rfl
instance:Fld Tryz.prog 54 4 4:=⟨zPY⟩
theorem zK1:lay Tryz.prog 107=some (false,1):=by kernel_rfl
instance:Lay Tryz.prog 107 (false,1):=⟨zK1⟩
theorem zSM:zer Tryz.prog 107=some [(.map none)]:=by kernel_rfl
theorem lay52:lay Tryz.prog 52=some (true,5):=by kernel_rfl
instance:Lay Tryz.prog 52 (true,5):=⟨lay52⟩
theorem lay54:lay Tryz.prog 54=some (true,5):=by kernel_rfl
instance:Lay Tryz.prog 54 (true,5):=⟨lay54⟩
def Tryz.vvariants_domain:Gvariants_domain→Value
 | .media=>.iface 152 (agg [])
 | .tags=>.iface 153 (agg [])
 | .words n=>.iface 154 (int n)
 | .texts=>.iface 155 (agg [])
theorem zHF:SortCon Tryz.prog 105:=⟨zGy Tryz.func105 rfl kr,Tryz.slices_Sort_string_none,Tryz.slices_Sort_string⟩
theorem zF9:CompactCon Tryz.prog 106:=⟨zGy Tryz.func106 rfl kr,Tryz.slices_Compact_string_empty,Tryz.slices_Compact_string⟩
theorem zHQ {c:World} {b:Hp} (hw:Holds c b) (d:List Str) (f:Str) {vl:Value} (R:Sl b vl d) {r:Str} (h:strings_Join d f=some r) :
  Cs Tryz.prog 141 [vl,(str f)] c b r :=
 zRr Tryz.func141 rfl kr hw R h Tryz.strings_Join_none Tryz.strings_Join
theorem zFD {b:World} {c:Hp} (hw:Holds b c) (d:Str) (f:Str) {r:Int} (h:zBH d f=some r) :
  Ci Tryz.prog 159 [(str d),(str f)] b c r :=
 zQa Tryz.func159 rfl kr hw h Tryz.stringslite_Index_one
theorem zEF {c:World} {d:Hp} (hw:Holds c d) (b:Str) {r:Unit} (h:strings_makeASCIISet b=some r) :
  Con Tryz.prog 161 [(str b)] c d (fun H' v=>v=(.tuple ⟨[(.agg (Lib.setCells b)),(boo true)]⟩)) :=
 zRA Tryz.func161 rfl kr hw h (Tryz.strings_makeASCIISet (fun w=>(Tryz.zeroValue168 w).trans kr))
theorem zIL {b:World} {c:Hp} (hw:Holds b c) (d:Str) (f:Str) {r:Int} (h:zCc d f=some r) :
  Ci Tryz.prog 164 [(str d),(str f)] b c r :=
 zQ9 Tryz.func164 rfl kr hw h (zH2 Tryz.lays153 kr)
def Tryz.layIstring_ren:Go.Shelf.Ren:=⟨fun | 17=>262 | 22=>184 | 29=>221 | 30=>222 | 36=>253 | n=>n,fun | 0=>0 | 3=>3 | 4=>4 | 9=>9 | 24=>34 | n=>n,fun | n=>n⟩
theorem Tryz.layIstring:Lays2.n22 Tryz.prog Tryz.layIstring_ren:={
 mixed:=by kernel_rfl
 f17:=Tryz.func262.trans (congrArg some kr)
 f22:=Tryz.func184.trans (congrArg some kr)
 f29:=Tryz.func221.trans (congrArg some kr)
 f30:=Tryz.func222.trans (congrArg some kr)
 f36:=Tryz.func253.trans (congrArg some kr)
 t0:=Tryz.underlying0
 a0:=Tryz.isAgg0
 z0:=Tryz.sizeOf0
 v0:=Tryz.zeroValue0
 t3:=Tryz.underlying3
 a3:=Tryz.isAgg3
 z3:=Tryz.sizeOf3
 v3:=Tryz.zeroValue3
 t4:=Tryz.underlying4
 a4:=Tryz.isAgg4
 z4:=Tryz.sizeOf4
 v4:=Tryz.zeroValue4
 t9:=Tryz.underlying9
 a9:=Tryz.isAgg9
 z9:=Tryz.sizeOf9
 v9:=Tryz.zeroValue9
 t24:=Tryz.underlying34
 a24:=Tryz.isAgg34
 z24:=Tryz.sizeOf34
 v24:=Tryz.zeroValue34
 i9:=by kernel_rfl }
theorem zGL:InsCon Tryz.prog 184 9 (Value.string ⟨#[]⟩).cells 16:=⟨zGy Tryz.func184 rfl kr,fun b n c i vb vc cs y w=>Any2.slices_Insert_string_shift Tryz.layIstring b 0 n c i vb 0 1 vc cs [y] w,fun b n c vb vc y w=>Any2.slices_Insert_string_end_room Tryz.layIstring b 0 n c vb 0 1 vc [y] w,
 fun base n c vb vc cs y w=>Any2.slices_Insert_string_end_grow Tryz.layIstring base n c vb 0 1 vc cs [y] w,fun b n c i vb vc cs y w=>Any2.slices_Insert_string_grow Tryz.layIstring b 0 n c i vb 0 1 vc cs [y] w⟩
def Tryz.layIint_ren:Go.Shelf.Ren:=⟨fun | 21=>185 | 27=>223 | 28=>224 | 35=>254 | 39=>263 | n=>n,fun | 0=>0 | 3=>3 | 4=>4 | 22=>118 | n=>n,fun | n=>n⟩
theorem Tryz.layIint:Lays2.n21 Tryz.prog Tryz.layIint_ren:={
 mixed:=by kernel_rfl
 f21:=Tryz.func185.trans (congrArg some kr)
 f27:=Tryz.func223.trans (congrArg some kr)
 f28:=Tryz.func224.trans (congrArg some kr)
 f35:=Tryz.func254.trans (congrArg some kr)
 f39:=Tryz.func263.trans (congrArg some kr)
 t0:=Tryz.underlying0
 a0:=Tryz.isAgg0
 z0:=Tryz.sizeOf0
 v0:=Tryz.zeroValue0
 t3:=Tryz.underlying3
 a3:=Tryz.isAgg3
 z3:=Tryz.sizeOf3
 v3:=Tryz.zeroValue3
 t4:=Tryz.underlying4
 a4:=Tryz.isAgg4
 z4:=Tryz.sizeOf4
 v4:=Tryz.zeroValue4
 t22:=Tryz.underlying118
 a22:=Tryz.isAgg118
 z22:=Tryz.sizeOf118
 v22:=Tryz.zeroValue118
 i3:=by kernel_rfl }
theorem zHS:InsCon Tryz.prog 185 3 (Value.int .i64 0).cells 8:=⟨zGy Tryz.func185 rfl kr,fun b n c i vb vc cs y w=>Any2.slices_Insert_int_shift Tryz.layIint b 0 n c i vb 0 1 vc cs [y] w,fun b n c vb vc y w=>Any2.slices_Insert_int_end_room Tryz.layIint b 0 n c vb 0 1 vc [y] w,
 fun base n c vb vc cs y w=>Any2.slices_Insert_int_end_grow Tryz.layIint base n c vb 0 1 vc cs [y] w,fun b n c i vb vc cs y w=>Any2.slices_Insert_int_grow Tryz.layIint b 0 n c i vb 0 1 vc cs [y] w⟩
theorem zCn {d:World} {c:Hp} (hw:Holds d c) (f:Str) (i:UInt8) {b:Nat} (hA:At c ⟨b,0,none⟩ (setc f)) {r:Bool} (h:zAj f i=some r) :
  Cb Tryz.prog 203 [(ptr b 0),(byt i)] d c r :=
 zQ2 Tryz.func203 rfl kr hw hA h Tryz.asciiSet_contains
theorem zD8 {p:World} {j:Hp} (hw:Holds p j) (i:(List Str)) {k:Value} (d:Sl j k i) {r:Bool} (h:zC5 i=some r) :
  Cb Tryz.prog 42 [k] p j r:=by
 refine CM 23 Tryz.func42 hw fun S=>?_
 refine Ws<|Wg<|A<|We<|Ws<|Ws<|Wg<|A<|We<|B h fun u ab h=>WP.cut (fun f w=>match u with | .inl _=>∃ (v:Hp),f 0=k∧Sl v k i∧St p j w v [] | .inr _=>False) ?_ ?_
 ·refine Wb ?_
  refine WP.loopM (zET i) (fun s f w=>match s with | l=>∃ (o:Hp),f 0=k∧f 3=(int l)∧Sl o k i∧St p j w o []) 0 u ab ?_ ?_
  ·exact ⟨j,rfl,rfl,d,S⟩
  intro l f w hI y7 b aa
  obtain ⟨o,q,t,d,S⟩:=hI
  refine Ws<|Ws<|Wg<|M' t<|M' q<|Nq d<|La<|M ?_
  refine WL.grp 3 [9,10] 11 (boo ((decide (l<(i.length:Int)))&&(decide (l<21)))) ?_ ?_
  ·rcases boolE (decide (l<(i.length:Int))) with c | c
   ·refine Gy c<|M' t<|Gy c<|La<|Pt c ?_
    exact We ⟨(andT c),ag,rfl⟩
   refine Gn c<|Gn c<|Pf c ?_
   exact We ⟨(andF c),ag,rfl⟩
  intro us
  refine We ?_
  rcases condE b with ⟨x,b⟩ | ⟨x,b⟩
  ·refine CT x<|Wk<|Ws<|Wb<|Ws<|Wg<|M' q<|M' t<|B b fun ah ac b=>W.idx (α:=Str) d rfl rfl el34 ac ?_
   rintro ai _ ad rfl
   refine Lq S ad<|Ns<|Lc<|We ?_
   rcases condE b with ⟨z,b⟩ | ⟨z,b⟩
   ·refine CT z<|Ws<|Wg<|A<|We ?_
    cases b
    obtain rfl:=aa
    exact WP.ret (Rb h S)
   refine CF z<|Wk<|Wg<|M' t<|Lg<|A<|We ?_
   cases b
   exact ⟨rfl,⟨o,q,rfl,d,S⟩⟩
  refine CF x<|Wx ?_
  cases b
  obtain rfl:=aa
  exact ⟨o,q,d,S⟩
 intro f w hM
 rcases u with _ | e
 ·obtain ⟨v,h6,d,S⟩:=hM
  refine Ws<|Wg<|M' h6<|Nq d<|Lb<|A<|We ?_
  exact WP.ret (Rb h S)
 exact hM.elim
theorem zMP {o:World} {j:Hp} (hw:Holds o j) (i:(List (List Str))) {k:Value} (c:Sl j k i) {r:Bool} (h:zIs i=some r) :
  Cb Tryz.prog 41 [k] o j r:=by
 refine CM 23 Tryz.func41 hw fun S=>?_
 refine Ws<|Wg<|A<|We<|Ws<|Ws<|Wg<|A<|We<|B h fun u ab h=>WP.cut (fun f w=>match u with | .inl _=>∃ (v:Hp),f 0=k∧Sl v k i∧St o j w v [] | .inr _=>False) ?_ ?_
 ·refine Wb ?_
  refine WP.loopM (zFv i) (fun s f w=>match s with | l=>∃ (p:Hp),f 0=k∧f 3=(int l)∧Sl p k i∧St o j w p []) 0 u ab ?_ ?_
  ·exact ⟨j,rfl,rfl,c,S⟩
  intro l f w hI y7 b aa
  obtain ⟨p,q,t,c,S⟩:=hI
  refine Ws<|Ws<|Wg<|M' t<|M' q<|Nq c<|La<|M ?_
  refine WL.grp 3 [9,10] 11 (boo ((decide (l<(i.length:Int)))&&(decide (l<11)))) ?_ ?_
  ·rcases boolE (decide (l<(i.length:Int))) with d | d
   ·refine Gy d<|M' t<|Gy d<|La<|Pt d ?_
    exact We ⟨(andT d),ag,rfl⟩
   refine Gn d<|Gn d<|Pf d ?_
   exact We ⟨(andF d),ag,rfl⟩
  intro us
  refine We ?_
  rcases condE b with ⟨x,b⟩ | ⟨x,b⟩
  ·refine CT x<|Wk<|Ws<|Wb<|Ws<|Wg<|M' q<|M' t<|B b fun ac ad b=>W.idx (α:=(List Str)) c rfl rfl el33 ad ?_
   rintro am _ ae ⟨an,rfl,af⟩
   refine Lq S ae<|B b fun ao ah b=>W.call S rfl (zD8 S.holds ac af ah) ?_
   rintro ap aq ai aj S rfl
   have c:=c.up aj
   refine No<|We ?_
   rcases condE b with ⟨z,b⟩ | ⟨z,b⟩
   ·refine CT z<|Ws<|Wg<|A<|We ?_
    cases b
    obtain rfl:=aa
    exact WP.ret (Rb h S)
   refine CF z<|Wk<|Wg<|M' t<|Lg<|A<|We ?_
   cases b
   exact ⟨rfl,⟨ai,q,rfl,c,S⟩⟩
  refine CF x<|Wx ?_
  cases b
  obtain rfl:=aa
  exact ⟨p,q,c,S⟩
 intro f w hM
 rcases u with _ | e
 ·obtain ⟨v,h6,c,S⟩:=hM
  refine Ws<|Wg<|M' h6<|Nq c<|Lb<|A<|We ?_
  exact WP.ret (Rb h S)
 exact hM.elim
theorem zGE {v:World} {l:Hp} (hw:Holds v l) (k:(List GField)) {o:Value} (d:Sl l o k) {r:Bool} (h:zEf k=some r) :
  Cb Tryz.prog 10 [o] v l r:=by
 refine CM 33 Tryz.func10 hw fun S=>?_
 refine Ws<|Wg<|A<|We<|Ws<|Ws<|Wg<|A<|We<|B h fun x ad h=>WP.cut (fun f w=>match x with | .inl _=>∃ (z:Hp),f 0=o∧Sl z o k∧St v l w z [] | .inr _=>False) ?_ ?_
 ·refine Wb ?_
  refine WP.loopM (zEk k) (fun s f w=>match s with | p=>∃ (q:Hp),f 0=o∧f 3=(int p)∧Sl q o k∧St v l w q []) 0 x ad ?_ ?_
  ·exact ⟨l,rfl,rfl,d,S⟩
  intro p f w hI y7 c ac
  obtain ⟨q,t,u,d,S⟩:=hI
  refine Ws<|Ws<|Wg<|M' u<|M' t<|Nq d<|La<|M ?_
  refine WL.grp 3 [9,10] 11 (boo ((decide (p<(k.length:Int)))&&(decide (p<71)))) ?_ ?_
  ·rcases boolE (decide (p<(k.length:Int))) with i | i
   ·refine Gy i<|M' u<|Gy i<|La<|Pt i ?_
    exact We ⟨(andT i),ag,rfl⟩
   refine Gn i<|Gn i<|Pf i ?_
   exact We ⟨(andF i),ag,rfl⟩
  intro us
  refine We ?_
  rcases condE c with ⟨aa,c⟩ | ⟨aa,c⟩
  ·refine CT aa<|Wk<|Ws<|Wb<|Ws<|Wg<|M' t<|M' u<|B c fun ae af c=>W.idx (α:=GField) d rfl rfl el26 af ?_
   rintro ap _ ah rfl
   refine Fc ?_
   have ai:=At.add ah 0 (by simp)
   refine Lq S ai<|Ns<|Lc<|M<|B c fun aj j c=>WL.grp 8 [22,23,24,25,26,27,28] 29 (boo aj) ?_ ?_
   ·rcases boolE (decide (300<(ae.fName.length:Int))) with b | b
    ·replace j:=condT j b
     refine Gn b<|Gn b<|Gn b<|Gn b<|Gn b<|Gn b<|Gn b<|Pt b ?_
     exact We ⟨(ob j),ag,rfl⟩
    replace j:=condF j b
    refine Gy b<|M' t<|Gy b<|M' u<|Gy b<|B j fun aq ak j=>W.idx (α:=GField) d rfl rfl el26 ak ?_
    rintro ar _ al rfl
    refine Gy b<|Fc ?_
    have am:=At.add al 1 (by simp)
    refine Gy b ?_
    refine Lq S am<|Gy b<|Ns<|Gy b<|Lc<|Pf b ?_
    exact We ⟨(ob j),ag,rfl⟩
   intro us
   refine We ?_
   rcases condE c with ⟨ab,c⟩ | ⟨ab,c⟩
   ·refine CT ab<|Ws<|Wg<|A<|We ?_
    cases c
    obtain rfl:=ac
    exact WP.ret (Rb h S)
   refine CF ab<|Wk<|Wg<|M' u<|Lg<|A<|We ?_
   cases c
   exact ⟨rfl,⟨q,t,rfl,d,S⟩⟩
  refine CF aa<|Wx ?_
  cases c
  obtain rfl:=ac
  exact ⟨q,t,d,S⟩
 intro f w hM
 rcases x with _ | e
 ·obtain ⟨z,h6,d,S⟩:=hM
  refine Ws<|Wg<|M' h6<|Nq d<|Lb<|A<|We ?_
  exact WP.ret (Rb h S)
 exact hM.elim
theorem zLb {w0:World} {l:Hp} (hw:Holds w0 l) (b:GEntry) {u:Value} {v:Value} {x:Value} {z:Value} (an:Sl l u b.fKeys) (ac:Sl l v b.fVary) (t:Sl l x b.fSnapshot) (f:Sl l z b.fFields) {r:Bool} (h:zHr b=some r) :
  Cb Tryz.prog 14 [(agg [u,v,x,(str b.fReason),z,(str b.fBody),(int b.fRequested),(int b.fReceived)])] w0 l r:=by
 refine CM 33 Tryz.func14 hw fun S=>?_
 refine Ws<|Wg ?_
 refine W.box [u,v,x,(str b.fReason),z,(str b.fBody),(int b.fRequested),(int b.fReceived)] S rfl rfl ?_
 intro b1 w2 S
 refine A<|We<|Ws<|Wg<|Fb ?_
 refine Lo 0 S<|B h fun r3 ap h=>W.call S rfl (zMP S.holds b.fKeys an ap) ?_
 rintro v4 w5 H6 ae S rfl
 have ac:=ac.up ae
 have t:=t.up ae
 have f:=f.up ae
 refine M<|B h fun ai o h=>WL.grpw 4 [7,8,9] 10 (boo ai) (fun w=>∃ H':Hp,H6.le H'∧St w0 l w H' [.box b1 36 [u,v,x,(str b.fReason),z,(str b.fBody),(int b.fRequested),(int b.fReceived)]]) ?_ ?_
 ·rcases boolE r3 with i | i
  ·replace o:=condT o i
   refine Gy i<|Fb<|Gy i ?_
   refine Lo 0 S<|Gy i<|B o fun a4 aq o=>W.call S rfl (zD8 S.holds b.fVary ac aq) ?_
   rintro a5 a6 ar af S rfl
   have t:=t.up af
   have f:=f.up af
   refine Pt i ?_
   exact We ⟨(ob o),ag,⟨ar,af,S⟩⟩
  replace o:=condF o i
  refine Gn i<|Gn i<|Gn i<|Pf i ?_
  exact We ⟨(ob o),ag,⟨H6,lr,S⟩⟩
 intro us a7 ⟨aj,ak,S⟩
 have t:=t.up ak
 have f:=f.up ak
 refine M<|B h fun aa p h=>WL.grpw 4 [12,13,14] 15 (boo aa) (fun w=>∃ H':Hp,aj.le H'∧St w0 l w H' [.box b1 36 [u,v,x,(str b.fReason),z,(str b.fBody),(int b.fRequested),(int b.fReceived)]]) ?_ ?_
 ·rcases boolE ai with j | j
  ·replace p:=condT p j
   refine Gy j<|Fb<|Gy j ?_
   refine Lo 0 S<|Gy j<|B p fun a8 au p=>W.call S rfl (zD8 S.holds b.fSnapshot t au) ?_
   rintro a9 ba av al S rfl
   have f:=f.up al
   refine Pt j ?_
   exact We ⟨(ob p),ag,⟨av,al,S⟩⟩
  replace p:=condF p j
  refine Gn j<|Gn j<|Gn j<|Pf j ?_
  exact We ⟨(ob p),ag,⟨aj,lr,S⟩⟩
 intro us bb ⟨am,aw,S⟩
 have f:=f.up aw
 refine M ?_
 refine WL.grp 5 [17,18,19,20] 21 (boo (aa&&(decide ((b.fReason.length:Int)≤100)))) ?_ ?_
 ·rcases boolE aa with c | c
  ·refine Gy c<|Fb<|Gy c ?_
   refine Lo 0 S<|Gy c<|Ns<|Gy c<|Lb<|Pt c ?_
   exact We ⟨(andT c),ag,rfl⟩
  refine Gn c<|Gn c<|Gn c<|Gn c<|Pf c ?_
  exact We ⟨(andF c),ag,rfl⟩
 intro us
 refine M ?_
 refine WL.grp 5 [23,24,25,26] 27 (boo ((aa&&(decide ((b.fReason.length:Int)≤100)))&&(decide ((b.fBody.length:Int)≤2000)))) ?_ ?_
 ·rcases boolE (aa&&(decide ((b.fReason.length:Int)≤100))) with d | d
  ·refine Gy d<|Fb<|Gy d ?_
   refine Lo 0 S<|Gy d<|Ns<|Gy d<|Lb<|Pt d ?_
   exact We ⟨(andT d),ag,rfl⟩
  refine Gn d<|Gn d<|Gn d<|Gn d<|Pf d ?_
  exact We ⟨(andF d),ag,rfl⟩
 intro us
 refine M<|B h fun ax q h=>WL.grpw 4 [29,30,31] 32 (boo ax) (fun w=>∃ H':Hp,am.le H'∧St w0 l w H' [.box b1 36 [u,v,x,(str b.fReason),z,(str b.fBody),(int b.fRequested),(int b.fReceived)]]) ?_ ?_
 ·rcases boolE ((aa&&(decide ((b.fReason.length:Int)≤100)))&&(decide ((b.fBody.length:Int)≤2000))) with k | k
  ·replace q:=condT q k
   refine Gy k<|Fb<|Gy k ?_
   refine Lo 0 S<|Gy k<|B q fun bc ay q=>W.call S rfl (zGE S.holds b.fFields f ay) ?_
   rintro bd be az a0 S rfl
   refine Pt k ?_
   exact We ⟨(ob q),ag,⟨az,a0,S⟩⟩
  replace q:=condF q k
  refine Gn k<|Gn k<|Gn k<|Pf k ?_
  exact We ⟨(ob q),ag,⟨am,lr,S⟩⟩
 intro us bf ⟨bg,bh,S⟩
 refine A<|We ?_
 exact WP.ret (Rb h S)
theorem zLu {q:World} {k:Hp} (hw:Holds q k) (l:(List GAxis)) {o:Value} (c:Sl k o l) {r:Bool} (h:zIU l=some r) :
  Cb Tryz.prog 15 [o] q k r:=by
 refine CM 33 Tryz.func15 hw fun S=>?_
 refine Ws<|Wg<|A<|We<|Ws<|Ws<|Wg<|A<|We<|B h fun x ae h=>WP.cut (fun f w=>match x with | .inl _=>∃ (z:Hp),f 0=o∧Sl z o l∧St q k w z [] | .inr _=>False) ?_ ?_
 ·refine Wb ?_
  refine WP.loopM (zFr l) (fun s f w=>match s with | t=>∃ (p:Hp),f 0=o∧f 3=(int t)∧Sl p o l∧St q k w p []) 0 x ae ?_ ?_
  ·exact ⟨k,rfl,rfl,c,S⟩
  intro t f w hI y7 d ac
  obtain ⟨p,u,v,c,S⟩:=hI
  refine Ws<|Ws<|Wg<|M' v<|M' u<|Nq c<|La<|M ?_
  refine WL.grp 3 [9,10] 11 (boo ((decide (t<(l.length:Int)))&&(decide (t<7)))) ?_ ?_
  ·rcases boolE (decide (t<(l.length:Int))) with j | j
   ·refine Gy j<|M' v<|Gy j<|La<|Pt j ?_
    exact We ⟨(andT j),ag,rfl⟩
   refine Gn j<|Gn j<|Pf j ?_
   exact We ⟨(andF j),ag,rfl⟩
  intro us
  refine We ?_
  rcases condE d with ⟨aa,d⟩ | ⟨aa,d⟩
  ·refine CT aa<|Wk<|Ws<|Wb<|Ws<|Wg<|M' u<|M' v<|B d fun af ah d=>W.idx (α:=GAxis) c rfl rfl el22 ah ?_
   rintro ay _ ai ⟨az,rfl,a0⟩
   refine Fc ?_
   have aj:=At.add ai 0 (by simp)
   refine Lq S aj<|Ns<|Lc<|M<|B d fun ak i d=>WL.grpw 8 [22,23,24,25,26,27,28] 29 (boo ak) (fun w=>∃ H':Hp,p.le H'∧St q k w H' []) ?_ ?_
   ·rcases boolE (decide (100<(af.fName.length:Int))) with b | b
    ·replace i:=condT i b
     refine Gn b<|Gn b<|Gn b<|Gn b<|Gn b<|Gn b<|Gn b<|Pt b ?_
     exact We ⟨(ob i),ag,⟨p,lr,S⟩⟩
    replace i:=condF i b
    refine Gy b<|M' u<|Gy b<|M' v<|Gy b<|B i fun al am i=>W.idx (α:=GAxis) c rfl rfl el22 am ?_
    rintro a1 _ an ⟨a2,rfl,ao⟩
    refine Gy b<|Fc ?_
    have ap:=At.add an 1 (by simp)
    refine Gy b ?_
    refine Lq S ap<|Gy b<|B i fun a3 aq i=>W.call S rfl (zD8 S.holds al.fValues ao aq) ?_
    rintro a4 a5 ar ad S rfl
    have c:=c.up ad
    refine Gy b<|No<|Pf b ?_
    exact We ⟨(ob i),ag,⟨ar,ad,S⟩⟩
   intro us a6 ⟨au,av,S⟩
   have c:=c.up av
   refine We ?_
   rcases condE d with ⟨ab,d⟩ | ⟨ab,d⟩
   ·refine CT ab<|Ws<|Wg<|A<|We ?_
    cases d
    obtain rfl:=ac
    exact WP.ret (Rb h S)
   refine CF ab<|Wk<|Wg<|M' v<|Lg<|A<|We ?_
   cases d
   exact ⟨rfl,⟨au,u,rfl,c,S⟩⟩
  refine CF aa<|Wx ?_
  cases d
  obtain rfl:=ac
  exact ⟨p,u,c,S⟩
 intro f w hM
 rcases x with _ | e
 ·obtain ⟨z,h6,c,S⟩:=hM
  refine Ws<|Wg<|M' h6<|Nq c<|Lb<|A<|We ?_
  exact WP.ret (Rb h S)
 exact hM.elim
theorem zK6 {u:World} {k:Hp} (hw:Holds u k) (c:GTable) {l:Value} {o:Value} (p:Sl k l c.fAxes) (i:Sl k o c.fEntries) {r:Bool} (h:zHj c=some r) :
  Cb Tryz.prog 9 [(agg [l,o])] u k r:=by
 refine CM 31 Tryz.func9 hw fun S=>?_
 refine Ws<|Wg ?_
 refine W.box [l,o] S rfl rfl ?_
 intro v w2 S
 refine A<|We<|Ws<|Ws<|Wg<|A<|We<|B h fun ad ak h=>WP.cut (fun f w=>match ad with | .inl _=>∃ (t:Hp),f 1=(ptr v 0)∧Sl t l c.fAxes∧Sl t o c.fEntries∧St u k w t [.box v 25 [l,o]] | .inr _=>False) ?_ ?_
 ·refine Wb ?_
  refine WP.loopM (zFH c) (fun s f w=>match s with | x=>∃ (z:Hp),f 1=(ptr v 0)∧f 3=(int x)∧Sl z l c.fAxes∧Sl z o c.fEntries∧St u k w z [.box v 25 [l,o]]) 0 ad ak ?_ ?_
  ·exact ⟨k,rfl,rfl,p,i,S⟩
  intro x f w hI y9 b ah
  obtain ⟨z,h4,h6,p,i,S⟩:=hI
  refine Ws<|Ws<|Wg<|M' h6<|Fb' h4 ?_
  refine Lo 0 S<|Nq i<|La<|M ?_
  refine WL.grp 3 [10,11] 12 (boo ((decide (x<(c.fEntries.length:Int)))&&(decide (x<9)))) ?_ ?_
  ·rcases boolE (decide (x<(c.fEntries.length:Int))) with j | j
   ·refine Gy j<|M' h6<|Gy j<|La<|Pt j ?_
    exact We ⟨(andT j),ag,rfl⟩
   refine Gn j<|Gn j<|Pf j ?_
   exact We ⟨(andF j),ag,rfl⟩
  intro us
  refine We ?_
  rcases condE b with ⟨ae,b⟩ | ⟨ae,b⟩
  ·refine CT ae<|Wk<|Ws<|Wb<|Ws<|Wg<|Fb' h4 ?_
   refine Lo 0 S<|M' h6<|B b fun aa al b=>W.idx (α:=GEntry) i rfl rfl el23 al ?_
   rintro a5 _ am ⟨an,ao,ap,aq,rfl,ar,au,av,aw⟩
   refine WL.w (R.loadHN (vs:=[an,ao,ap,(str aa.fReason),aq,(str aa.fBody),(int aa.fRequested),(int aa.fReceived)]) S rfl am lay36 rfl rfl)<|B b fun a6 ax b=>W.call S rfl (zLb S.holds aa ar au av aw ax) ?_
   rintro a7 a8 ay ai S rfl
   have i:=i.up ai
   have p:=p.up ai
   refine No<|We ?_
   rcases condE b with ⟨af,b⟩ | ⟨af,b⟩
   ·refine CT af<|Ws<|Wg<|A<|We ?_
    cases b
    obtain rfl:=ah
    exact WP.ret (Rb h S)
   refine CF af<|Wk<|Wg<|M' h6<|Lg<|A<|We ?_
   cases b
   exact ⟨rfl,⟨ay,h4,rfl,p,i,S⟩⟩
  refine CF ae<|Wx ?_
  cases b
  obtain rfl:=ah
  exact ⟨z,h4,p,i,S⟩
 intro f w hM
 rcases ad with _ | e
 ·obtain ⟨t,h8,p,i,S⟩:=hM
  refine Ws<|Wg<|Fb' h8 ?_
  refine Lo 0 S<|Nq i<|Lb<|M<|B h fun az q h=>WL.grpw 4 [27,28,29] 30 (boo az) (fun w=>∃ H':Hp,t.le H'∧St u k w H' [.box v 25 [l,o]]) ?_ ?_
  ·rcases boolE (decide ((c.fEntries.length:Int)≤8)) with d | d
   ·replace q:=condT q d
    refine Gy d<|Fb' h8<|Gy d ?_
    refine Lo 0 S<|Gy d<|B q fun a9 a0 q=>W.call S rfl (zLu S.holds c.fAxes p a0) ?_
    rintro ba bb a1 a2 S rfl
    refine Pt d ?_
    exact We ⟨(ob q),ag,⟨a1,a2,S⟩⟩
   replace q:=condF q d
   refine Gn d<|Gn d<|Gn d<|Pf d ?_
   exact We ⟨(ob q),ag,⟨t,lr,S⟩⟩
  intro us bc ⟨bd,be,S⟩
  refine A<|We ?_
  exact WP.ret (Rb h S)
 exact hM.elim
theorem zAV {v:World} {l:Hp} (hw:Holds v l) (c:Str) {r:Str} (h:zAe c=some r) :
  Cs Tryz.prog 94 [(str c)] v l r:=by
 refine CM 30 Tryz.func94 hw fun S=>?_
 refine Ws<|Wg<|A<|We<|Ws<|Wg<|M<|W.bytes (s:=c) S rfl Tryz.underlying9 Tryz.underlying128 Tryz.underlying5 ?_
 intro o z w3 ap S
 refine A<|We<|Ws<|Ws<|Wg<|M<|Nv<|M<|We<|B h fun p aj h=>WP.cut (fun f w=>∃ (af:Hp),f 3=(.slice (some ⟨o,0,none⟩) c.length z)∧p.length=c.length∧St v l w af [.box o 5 (p.map byt)]) ?_ ?_
 ·refine Wb ?_
  refine WP.loopM (zDi c) (fun s f w=>match s with | (aa,k)=>∃ (q:Hp),f 3=(.slice (some ⟨o,0,none⟩) c.length z)∧f 8=(.slice (some ⟨o,0,none⟩) c.length z)∧f 9=(int (c.length:Int))∧f 10=(int aa)∧k.length=c.length∧St v l w q [.box o 5 (k.map byt)]) (0,c) p aj ?_ ?_
  ·exact ⟨l,rfl,rfl,rfl,rfl,rfl,S⟩
  intro s f w hI aq b ak
  obtain ⟨aa,k⟩:=s
  obtain ⟨q,x,h6,h7,t,u,S⟩:=hI
  refine Ws<|Wg<|La' t h7<|We<|Ws ?_
  rcases condE b with ⟨ad,b⟩ | ⟨ad,b⟩
  ·refine CT ad<|Wk<|Ws<|Wb<|Ws<|Wg<|M' t<|B b fun ar ah b=>?_
   have au:=(zAr ah).2
   refine WL.w (R.idxB h6 t el128 (by have:=(zAr ah).2; have hl:k.length=c.length:=u; omega))<|B b fun j al b=>?_
   refine WL.w (R.loadB (i:=0) S rfl rfl lay5 (zAr al).1)<|A<|A<|We<|Ws<|Wg<|M<|Md j 65<|M ?_
   refine WL.grp 3 [18,19] 20 (boo ((decide (65≤j))&&(decide (j≤90)))) ?_ ?_
   ·rcases boolE (decide (65≤j)) with d | d
    ·refine Gy d<|M<|Gy d<|Mb j 90<|Pt d ?_
     exact We ⟨(andT d),ag,rfl⟩
    refine Gn d<|Gn d<|Pf d ?_
    exact We ⟨(andF d),ag,rfl⟩
   intro us
   refine We ?_
   rcases condE b with ⟨ae,b⟩ | ⟨ae,b⟩
   ·refine CT ae<|Wg<|M' x<|M<|M<|Mg j 97<|Mh (j+97) 65<|B b fun av ai b=>?_
    have aw:=(zAr ai).2
    refine WL.w (R.idxB rfl rfl el128 (by have:=(zAr ai).2; have hl:k.length=c.length:=u; omega)) ?_
    refine W.store (i:=0) ((k.set aa.toNat ((j+97) - 65)).map byt) S rfl rfl rfl lay5 rfl rfl (by rw [List.length_map]; omega) (zKi _ _ _ (by omega)) ?_
    intro ax S
    refine We<|Wg<|Lg' t rfl<|M<|We ?_
    cases b
    exact ⟨rfl,⟨q,x,h6,h7,rfl,(List.length_set.trans u),S⟩⟩
   refine CF ae<|Wk<|Wg<|Lg' t rfl<|M<|We ?_
   cases b
   exact ⟨rfl,⟨q,x,h6,h7,rfl,u,S⟩⟩
  refine CF ad<|Wx ?_
  cases b
  obtain rfl:=ak
  exact ⟨q,x,u,S⟩
 rintro f w ⟨af,am,an,S⟩
 refine Ws<|Wg<|M' am ?_
 refine WL.w (R.strB (i:=0) (s:=p) S (by rw [show p.length=c.length from an]; exact rfl) rfl Tryz.underlying128 Tryz.underlying9 Tryz.underlying5)<|A<|We ?_
 exact WP.ret (Rs h S)
theorem zH0 {j:World} {i:Hp} (hw:Holds j i) (c:GField) (f:Str) {k:Addr} (l:At i k [(str f)]) {r:Bool} (h:zC7 c f=some r) :
  Cb Tryz.prog 158 [(agg [(str c.fName),(str c.fValue)]),(.pointer (some k))] j i r:=by
 refine CM 17 Tryz.func158 hw fun S=>?_
 refine Ws<|Wg ?_
 refine W.box [(str c.fName),(str c.fValue)] S rfl rfl ?_
 intro t u S
 refine A<|We<|Ws<|WP.quiet S kr kr<|QFb ?_
 refine QB 0 (str c.fName)<|QNs ?_
 refine QH (str f) l<|QNs<|QLe<|QM<|B h fun o d h=>WQ.grp 6 [11,12,13,14,15] 16 (boo o) ?_ ?_
 ·rcases boolE ((c.fName.length:Int)==(f.length:Int)) with b | b
  ·replace d:=condT d b
   refine QGy b<|QFb<|QGy b ?_
   refine QB 0 (str c.fName)<|QGy b<|B d fun p q d=>WQ.call (v:=str p) rfl (fun w H' hq S=>zAV S.holds c.fName q)<|QGy b ?_
   refine QH (str f) l<|QGy b<|QNa<|QPt b ?_
   exact WQ.nil ⟨(ob d),ag⟩
  replace d:=condF d b
  refine QGn b<|QGn b<|QGn b<|QGn b<|QGn b<|QPf b ?_
  exact WQ.nil ⟨(ob d),ag⟩
 intro us
 refine QA<|WQ.nil ?_
 intro x z aa S
 exact WP.ret (Rb h S)
theorem zFo {f:World} {j:Hp} (hw:Holds f j) (d:Str) {r:(GField→Option Bool)} (h:zC6 d=some r) :
  Con Tryz.prog 129 [(str d)] f j (fun H' v=>∃ (k:FuncId) (c:List Value),v=.func (.func k) #[] c.toArray∧∀ {w:World} {H:Hp},H'.le H→Holds w H→∀ (b:GField) (rr:Bool),r b=some rr→Con Tryz.prog k ([(agg [(str b.fName),(str b.fValue)])]++c) w H (fun H' v=>v=(boo rr))):=by
 refine CM 6 Tryz.func129 hw fun S=>?_
 refine Ws<|Wg ?_
 refine W.box [(str d)] S rfl rfl ?_
 intro l x S
 refine A<|We<|Ws<|Wg ?_
 refine Lo 0 S<|B h fun o q h=>W.call S rfl (zAV S.holds d q) ?_
 rintro z w5 H6 ac S rfl
 refine W.store (i:=0) [(str o)] S rfl rfl rfl lay9 rfl rfl (Nat.le_of_ble_eq_true rfl) rfl ?_
 intro w8 S
 refine We<|Ws<|Wg ?_
 obtain ⟨p,ae,t,_,S⟩:=S.settle (i:=0) rfl
 replace S:St f j _ p []:=S
 have u:At p ⟨l,0,none⟩ [(str o)]:=⟨_,_,rfl,t,[],by simp⟩
 refine WL.w (R.mkFunc (vs:=[(.pointer (some ⟨l,0,none⟩))]) rfl)<|A<|We ?_
 cases h
 refine WP.ret (Out.one rfl S rfl ?_)
 exact ⟨_,[(.pointer (some ⟨l,0,none⟩))],rfl,fun hle hw b r h=>zH0 hw b o (At.mono u hle (by simp)) h⟩
theorem zFf {q:World} {k:Hp} (hw:Holds q k) (o:(List GField)) (z:(GField→Option Bool)) {t:Value} {kp_keep:FuncId} {cp_keep:List Value} (c:Sl k t o) (Fp_keep:∀ {w:World} {H:Hp},k.le H→Holds w H→∀ (x0:GField) (rr:Bool),z x0=some rr→Con Tryz.prog kp_keep ([(agg [(str x0.fName),(str x0.fValue)])]++cp_keep) w H (fun H' v=>v=(boo rr))) {r:(List GField)} (h:zCW o z=some r) :
  Con Tryz.prog 128 [t,(.func (.func kp_keep) #[] cp_keep.toArray)] q k (fun H' v=>Sl H' v r):=by
 refine CM 23 Tryz.func128 hw fun S=>?_
 refine Ws<|Wg<|A<|We<|Ws<|Wg<|A<|We<|Ws<|Ws<|Wg<|M ?_
 refine Nq c<|M<|We ?_
 have S:=S.addNil 64 2
 refine B h fun ab ap h=>WP.cut (fun f w=>∃ (ac:Hp) (u:Value),f 5=u∧Sl ac u ab∧St q k w ac [.row u 64 2 ab.length]) ?_ ?_
 ·refine Wb ?_
  refine WP.loopM (zBn o z) (fun s f w=>match s with | (ad,al)=>∃ (p:Hp) (l:Value),f 1=(.func (.func kp_keep) #[] cp_keep.toArray)∧f 5=l∧f 8=t∧f 9=(int (o.length:Int))∧f 10=(int al)∧Sl p l ad∧Sl p t o∧St q k w p [.row l 64 2 ad.length]) (([]:List GField),0) ab ap ?_ ?_
  ·exact ⟨k,.slice none 0 0,rfl,rfl,rfl,rfl,rfl,Sl.nil,c,S⟩
  intro s f w hI a4 b aq
  obtain ⟨ad,al⟩:=s
  obtain ⟨p,l,h2,h6,h7,h8,x,j,c,S⟩:=hI
  refine Ws<|Wg<|La' x h8<|We<|Ws ?_
  rcases condE b with ⟨aj,b⟩ | ⟨aj,b⟩
  ·refine CT aj<|Wk<|Ws<|Wb<|Ws<|Wg<|B b fun d ar b=>W.idx (α:=GField) c h7 x el26 ar ?_
   rintro a5 _ au rfl
   refine WL.w (R.loadHN (vs:=[(str d.fName),(str d.fValue)]) S rfl au lay64 rfl rfl) ?_
   refine W.alloc [(str []),(str [])] S zer64 ?_
   intro a6 a7 S
   refine W.store (i:=0) [(str d.fName),(str d.fValue)] S rfl rfl rfl lay64 rfl rfl (Nat.le_of_ble_eq_true rfl) rfl ?_
   intro a8 S
   refine We<|Ws<|Wg<|M' h2 ?_
   refine WL.w (R.loadBN (i:=0) (vs:=[(str d.fName),(str d.fValue)]) S rfl rfl lay64 rfl rfl)<|B b fun a9 av b=>W.callv S rfl rfl (Fp_keep (S.post.le) S.holds d _ av) ?_
   rintro ba bb aw am S rfl
   have j:=j.up am
   have c:=c.up am
   refine We ?_
   rcases condE b with ⟨ak,b⟩ | ⟨ak,b⟩
   ·refine CT ak<|Wg<|M' h6 ?_
    refine WL.w (R.loadBN (i:=0) (vs:=[(str d.fName),(str d.fValue)]) S rfl rfl lay64 rfl rfl)<|W.bslice (α:=GField) [(agg [(str d.fName),(str d.fValue)])] ([d]:List GField) S el26 rfl rfl rfl (by decide) (Go.Eng.encS ⟨rfl,rfl⟩ enc0) ?_
    intro bc bd be an ax S
    have j:=j.up an
    have c:=c.up an
    refine B b fun bf ay b=>W.app (α:=GField) (i:=2) S el26 rfl rfl rfl j ax ay ?_
    intro az bg a0 ao a1 S
    have j:=j.up ao
    have c:=c.up ao
    refine A<|We<|Wg<|Lg' x rfl<|M<|We ?_
    cases b
    exact ⟨rfl,⟨a0,az,h2,rfl,h7,h8,rfl,a1,c,(S.drop _ (.cons _ (.cons _ (.cons_cons _ .slnil))))⟩⟩
   refine CF ak<|Wk<|Wg<|Lg' x rfl<|M<|We ?_
   cases b
   exact ⟨rfl,⟨aw,l,h2,h6,h7,h8,rfl,j,c,(S.drop _ (.cons _ (.cons_cons _ .slnil)))⟩⟩
  refine CF aj<|Wx ?_
  cases b
  obtain rfl:=aq
  exact ⟨p,l,h6,j,S⟩
 rintro f w ⟨ac,u,a2,a3,S⟩
 refine Ws<|Wg<|M' a2<|A<|We ?_
 exact WP.ret (Rl h S a3)
theorem zE5 {i:World} {b:Hp} (hw:Holds i b) (c:(List GField)) (d:Str) {j:Value} (f:Sl b j c) {r:Bool} (h:zDB c d=some r) :
  Cb Tryz.prog 100 [j,(str d)] i b r:=by
 refine CM 11 Tryz.func100 hw fun S=>?_
 refine Ws<|Wg<|A<|We<|Ws<|Wg<|M<|M<|B h fun k l h=>W.call S rfl (zFo S.holds d l) ?_
 rintro t u v o S ⟨kr1,cr1,rfl,Fr1⟩
 have f:=f.up o
 refine B h fun x p h=>W.call S rfl (zFf S.holds c k f (fun hle=>Fr1 (Hp.le.trans lr hle)) p) ?_
 rintro z w8 H9 ac S q
 refine Nq q<|Lc<|A<|We ?_
 exact WP.ret (Rb h S)
theorem zHA {p:World} {k:Hp} (hw:Holds p k) (t:(List GField)) (u:Str) {af:Value} (x:Sl k af t) {r:(List Str)} (h:zD7 t u=some r) :
  Con Tryz.prog 125 [af,(str u)] p k (fun H' v=>Sl H' v r):=by
 refine CM 24 Tryz.func125 hw fun S=>?_
 refine Ws<|Wg<|A<|We<|Ws<|Wg<|A<|We<|Ws<|Ws<|Wg<|M ?_
 refine M<|B h fun r1 ap h=>W.call S rfl (zFo S.holds u ap) ?_
 rintro v2 w3 H4 aq S ⟨kr1,cr1,rfl,Fr1⟩
 have x:=x.up aq
 refine B h fun z ar h=>W.call S rfl (zFf S.holds t r1 x (fun hle=>Fr1 (Hp.le.trans lr hle)) ar) ?_
 rintro v7 w8 H9 ba S b
 refine Nq b<|M<|We ?_
 have S:=S.addNil 9 1
 refine B h fun aa av h=>WP.cut (fun f w=>∃ (ab:Hp) (q:Value),f 5=q∧Sl ab q aa∧St p k w ab [.row q 9 1 aa.length]) ?_ ?_
 ·refine Wb ?_
  refine WP.loopM (zCY z) (fun s f w=>match s with | (ac,ai)=>∃ (l:Hp) (o:Value),f 5=o∧f 11=v7∧f 12=(int (z.length:Int))∧f 13=(int ai)∧Sl l o ac∧Sl l v7 z∧St p k w l [.row o 9 1 ac.length]) (([]:List Str),0) aa av ?_ ?_
  ·exact ⟨H9,.slice none 0 0,rfl,rfl,rfl,rfl,Sl.nil,b,S⟩
  intro s f w hI bb c aw
  obtain ⟨ac,ai⟩:=s
  obtain ⟨l,o,aj,ak,al,ad,d,b,S⟩:=hI
  refine Ws<|Wg<|La' ad al<|We<|Ws ?_
  rcases condE c with ⟨ae,c⟩ | ⟨ae,c⟩
  ·refine CT ae<|Wk<|Ws<|Wb<|Ws<|Wg<|B c fun j ax c=>W.idx (α:=GField) b ak ad el26 ax ?_
   rintro bc _ ay rfl
   refine WL.w (R.loadHN (vs:=[(str j.fName),(str j.fValue)]) S rfl ay lay64 rfl rfl) ?_
   refine W.alloc [(str []),(str [])] S zer64 ?_
   intro bd be S
   refine W.store (i:=0) [(str j.fName),(str j.fValue)] S rfl rfl rfl lay64 rfl rfl (Nat.le_of_ble_eq_true rfl) rfl ?_
   intro bf S
   refine We<|Wg<|M' aj<|Fb ?_
   refine Lo 0 S<|W.bslice (α:=Str) [(str j.fValue)] ([j.fValue]:List Str) S el34 rfl rfl rfl (by decide) (Go.Eng.encS ⟨rfl,rfl⟩ enc0) ?_
   intro bg bh bi am az S
   have d:=d.up am
   have b:=b.up am
   refine B c fun bj a0 c=>W.app (α:=Str) (i:=2) S el34 rfl rfl rfl d az a0 ?_
   intro a1 bk a2 an a3 S
   have d:=d.up an
   have b:=b.up an
   refine A<|We<|Wg<|Lg' ad rfl<|M<|We ?_
   cases c
   exact ⟨rfl,⟨a2,a1,rfl,ak,al,rfl,a3,b,(S.drop _ (.cons _ (.cons _ (.cons_cons _ .slnil))))⟩⟩
  refine CF ae<|Wx ?_
  cases c
  obtain rfl:=aw
  exact ⟨l,o,aj,d,S⟩
 rintro f w ⟨ab,q,a4,a5,S⟩
 refine Ws<|Wg<|M' a4<|A<|We ?_
 exact WP.ret (Rl h S a5)
theorem zMA {k:World} {l:Hp} (hw:Holds k l) (d:Int) (c:UInt8) {r:Int} (h:zIT d c=some r) :
  Ci Tryz.prog 153 [(int d),(byt c)] k l r:=by
 refine CM 21 Tryz.func153 hw fun S=>?_
 refine Ws<|Wg<|A<|We<|Ws<|Wb<|Ws<|Wg<|M<|Le<|A<|We ?_
 rcases condE h with ⟨f,h⟩ | ⟨f,h⟩
 ·refine CT f<|Ws<|Wg<|A<|We ?_
  exact WP.ret (Ri h S)
 refine CF f<|Ws<|Wg<|M<|Le<|M ?_
 refine WL.grp 3 [12,13] 14 (boo ((d==1)&&(c==92))) ?_ ?_
 ·rcases boolE (d==1) with b | b
  ·refine Gy b<|M<|Gy b<|Me c 92<|Pt b ?_
   exact We ⟨(andT b),ag,rfl⟩
  refine Gn b<|Gn b<|Pf b ?_
  exact We ⟨(andF b),ag,rfl⟩
 intro us
 refine A<|We ?_
 rcases condE h with ⟨i,h⟩ | ⟨i,h⟩
 ·refine CT i<|Ws<|Wg<|A<|We ?_
  exact WP.ret (Ri h S)
 refine CF i<|Ws<|Wg<|M<|Me c 34<|A<|We ?_
 rcases condE h with ⟨j,h⟩ | ⟨j,h⟩
 ·refine CT j<|Ws<|Wg<|M<|Lh<|A<|We ?_
  exact WP.ret (Ri h S)
 refine CF j<|Wk<|Ws<|Wg<|M<|A<|We ?_
 exact WP.ret (Ri h S)
theorem zGM {l:World} {j:Hp} (hw:Holds l j) (p:Str) (k:UInt8) {r:Str} (h:zEz p k=some r) :
  Cs Tryz.prog 231 [(str p),(byt k)] l j r:=by
 refine CM 23 Tryz.func231 hw fun S=>?_
 refine Ws<|Wg<|A<|We<|Ws<|B h fun u z h=>WP.cut (fun f w=>∃ (v:Hp),f 0=(str u)∧St l j w v []) ?_ ?_
 ·refine Wb ?_
  refine WP.loopM (zDz k) (fun s f w=>match s with | q=>∃ (o:Hp),f 0=(str q)∧f 1=(byt k)∧St l j w o []) p u z ?_ ?_
  ·exact ⟨j,rfl,rfl,S⟩
  intro q f w hI y8 c aa
  obtain ⟨o,i,x,S⟩:=hI
  refine Ws<|Ws<|Wg<|M' i<|Ns<|Lc<|M<|B c fun ab d c=>WL.grp 8 [9,10,11,12,13,14,15] 16 (boo ab) ?_ ?_
  ·rcases boolE (decide (0<(q.length:Int))) with b | b
   ·replace d:=condT d b
    refine Gy b<|M' i<|Gy b<|M' i<|Gy b<|Ns<|Gy b<|Lh<|Gy b<|B d fun ac ad d=>Ja ad<|Gy b<|M' x<|Gy b<|Me ac k<|Pt b ?_
    exact We ⟨(ob d),ag,rfl⟩
   replace d:=condF d b
   refine Gn b<|Gn b<|Gn b<|Gn b<|Gn b<|Gn b<|Gn b<|Pf b ?_
   exact We ⟨(ob d),ag,rfl⟩
  intro us
  refine We ?_
  rcases condE c with ⟨t,c⟩ | ⟨t,c⟩
  ·refine CT t<|Wk<|Wb<|Wg<|M' i<|M' i<|Ns<|Lh<|B c fun ai ae c=>Jd ae<|A<|We ?_
   cases c
   exact ⟨rfl,⟨o,rfl,x,S⟩⟩
  refine CF t<|Wx ?_
  cases c
  obtain rfl:=aa
  exact ⟨o,i,S⟩
 rintro f w ⟨v,h7,S⟩
 refine Ws<|Wg<|M' h7<|A<|We ?_
 exact WP.ret (Rs h S)
theorem zEQ {k:World} {i:Hp} (hw:Holds k i) (p:Str) (j:UInt8) {r:Str} (h:zBa p j=some r) :
  Cs Tryz.prog 160 [(str p),(byt j)] k i r:=by
 refine CM 17 Tryz.func160 hw fun S=>?_
 refine Ws<|Wg<|A<|We<|Ws<|B h fun u z h=>WP.cut (fun f w=>∃ (v:Hp),f 0=(str u)∧St k i w v []) ?_ ?_
 ·refine Wb ?_
  refine WP.loopM (zBb j) (fun s f w=>match s with | q=>∃ (l:Hp),f 0=(str q)∧f 1=(byt j)∧St k i w l []) p u z ?_ ?_
  ·exact ⟨i,rfl,rfl,S⟩
  intro q f w hI y8 c aa
  obtain ⟨l,o,x,S⟩:=hI
  refine Ws<|Ws<|Wg<|M' o<|Ns<|Lc<|M<|B c fun ab d c=>WL.grp 5 [9,10,11,12] 13 (boo ab) ?_ ?_
  ·rcases boolE (decide (0<(q.length:Int))) with b | b
   ·replace d:=condT d b
    refine Gy b<|M' o<|Gy b<|B d fun ac ad d=>Ja ad<|Gy b<|M' x<|Gy b<|Me ac j<|Pt b ?_
    exact We ⟨(ob d),ag,rfl⟩
   replace d:=condF d b
   refine Gn b<|Gn b<|Gn b<|Gn b<|Pf b ?_
   exact We ⟨(ob d),ag,rfl⟩
  intro us
  refine We ?_
  rcases condE c with ⟨t,c⟩ | ⟨t,c⟩
  ·refine CT t<|Wk<|Wb<|Wg<|M' o<|B c fun ai ae c=>Jc ae<|A<|We ?_
   cases c
   exact ⟨rfl,⟨l,rfl,x,S⟩⟩
  refine CF t<|Wx ?_
  cases c
  obtain rfl:=aa
  exact ⟨l,o,S⟩
 rintro f w ⟨v,h7,S⟩
 refine Ws<|Wg<|M' h7<|A<|We ?_
 exact WP.ret (Rs h S)
theorem zF7 {k:World} {d:Hp} (hw:Holds k d) (o:Str) (j:Str) {bp_as:Nat} (i:At d ⟨bp_as,0,none⟩ (setc j)) {r:Str} (h:zBp o j=some r) :
  Cs Tryz.prog 232 [(str o),(ptr bp_as 0)] k d r:=by
 refine CM 22 Tryz.func232 hw fun S=>?_
 refine Ws<|Wg<|A<|We<|Ws<|B h fun t ab h=>WP.cut (fun f w=>∃ (u:Hp),f 0=(str t)∧St k d w u []) ?_ ?_
 ·refine Wb ?_
  refine WP.loopM (zBM j) (fun s f w=>match s with | v=>∃ (l:Hp),f 0=(str v)∧f 1=(ptr bp_as 0)∧At l ⟨bp_as,0,none⟩ (setc j)∧St k d w l []) o t ab ?_ ?_
  ·exact ⟨d,rfl,rfl,i,S⟩
  intro v f w hI y8 b x
  obtain ⟨l,c,z,i,S⟩:=hI
  refine Ws<|Ws<|Wg<|M' c<|Ns<|Lc<|We ?_
  rcases condE b with ⟨p,b⟩ | ⟨p,b⟩
  ·refine CT p<|Wk<|Wb<|Ws<|Ws<|Wg<|M' z<|M' c<|M' c<|Ns<|Lh<|B b fun ac ad b=>Ja ad<|B b fun ak ae b=>W.call S rfl (zCn S.holds j ac i ae) ?_
   rintro al am aa af S rfl
   have i:=At.mono i af (by intro h; have:=congrArg List.length h; rw [zFu] at this; cases this)
   refine No<|We ?_
   rcases condE b with ⟨q,b⟩ | ⟨q,b⟩
   ·refine CT q<|Wx ?_
    cases b
    obtain rfl:=x
    exact ⟨aa,c,S⟩
   refine CF q<|Wk<|Wg<|M' c<|M' c<|Ns<|Lh<|B b fun an ah b=>Jd ah<|A<|We ?_
   cases b
   exact ⟨rfl,⟨aa,rfl,z,i,S⟩⟩
  refine CF p<|Wx ?_
  cases b
  obtain rfl:=x
  exact ⟨l,c,S⟩
 rintro f w ⟨u,h7,S⟩
 refine Ws<|Wg<|M' h7<|A<|We ?_
 exact WP.ret (Rs h S)
theorem zD0 {k:World} {c:Hp} (hw:Holds k c) (o:Str) (i:Str) {bp_as:Nat} (d:At c ⟨bp_as,0,none⟩ (setc i)) {r:Str} (h:zBP o i=some r) :
  Cs Tryz.prog 162 [(str o),(ptr bp_as 0)] k c r:=by
 refine CM 16 Tryz.func162 hw fun S=>?_
 refine Ws<|Wg<|A<|We<|Ws<|B h fun t ab h=>WP.cut (fun f w=>∃ (u:Hp),f 0=(str t)∧St k c w u []) ?_ ?_
 ·refine Wb ?_
  refine WP.loopM (zBS i) (fun s f w=>match s with | v=>∃ (l:Hp),f 0=(str v)∧f 1=(ptr bp_as 0)∧At l ⟨bp_as,0,none⟩ (setc i)∧St k c w l []) o t ab ?_ ?_
  ·exact ⟨c,rfl,rfl,d,S⟩
  intro v f w hI y8 b x
  obtain ⟨l,j,z,d,S⟩:=hI
  refine Ws<|Ws<|Wg<|M' j<|Ns<|Lc<|We ?_
  rcases condE b with ⟨p,b⟩ | ⟨p,b⟩
  ·refine CT p<|Wk<|Wb<|Ws<|Ws<|Wg<|M' z<|M' j<|B b fun ac ad b=>Ja ad<|B b fun ak ae b=>W.call S rfl (zCn S.holds i ac d ae) ?_
   rintro al am aa af S rfl
   have d:=At.mono d af (by intro h; have:=congrArg List.length h; rw [zFu] at this; cases this)
   refine No<|We ?_
   rcases condE b with ⟨q,b⟩ | ⟨q,b⟩
   ·refine CT q<|Wx ?_
    cases b
    obtain rfl:=x
    exact ⟨aa,j,S⟩
   refine CF q<|Wk<|Wg<|M' j<|B b fun an ah b=>Jc ah<|A<|We ?_
   cases b
   exact ⟨rfl,⟨aa,rfl,z,d,S⟩⟩
  refine CF p<|Wx ?_
  cases b
  obtain rfl:=x
  exact ⟨l,j,S⟩
 rintro f w ⟨u,h7,S⟩
 refine Ws<|Wg<|M' h7<|A<|We ?_
 exact WP.ret (Rs h S)
end Go.Proofs
