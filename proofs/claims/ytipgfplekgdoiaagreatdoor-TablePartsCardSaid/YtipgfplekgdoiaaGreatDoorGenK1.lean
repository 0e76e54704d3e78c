/- A part. -/
import Derived.Test.YtipgfplekgdoiaaGreatDoorEng38
import Derived.Test.YtipgfplekgdoiaaGreatDoorEng36
import Derived.Test.YtipgfplekgdoiaaGreatDoorPure4
import Derived.Test.YtipgfplekgdoiaaGreatDoorProg
import Derived.Test.YtipgfplekgdoiaaGreatDoorShelf
import Derived.Shelf.Spec.SlicesInsertGrow
import Derived.Shelf.Spec.SlicesInsert
namespace Go.Proofs
set_option maxHeartbeats 4000000
set_option maxRecDepth 10000
open Go.Eng Go.Eng.Pure
instance:Und Tryz.prog 3 (.int .i64):=⟨Tryz.underlying3⟩
instance:Und Tryz.prog 4 .bool:=⟨Tryz.underlying4⟩
instance:Und Tryz.prog 5 (.int .u8):=⟨Tryz.underlying5⟩
instance:Und Tryz.prog 9 .string:=⟨Tryz.underlying9⟩
instance:Und Tryz.prog 22 (.slice 68):=⟨Tryz.underlying22⟩
instance:Und Tryz.prog 23 (.slice 36):=⟨Tryz.underlying23⟩
instance:Und Tryz.prog 26 (.slice 64):=⟨Tryz.underlying26⟩
instance:Und Tryz.prog 33 (.slice 34):=⟨Tryz.underlying33⟩
instance:Und Tryz.prog 34 (.slice 9):=⟨Tryz.underlying34⟩
instance:Und Tryz.prog 118 (.slice 3):=⟨Tryz.underlying118⟩
instance:Und Tryz.prog 122 (.slice 147):=⟨Tryz.underlying122⟩
instance:Und Tryz.prog 128 (.slice 5):=⟨Tryz.underlying128⟩
instance:Und Tryz.prog 154 (.int .i64):=⟨Tryz.underlying154⟩
instance:Und Tryz.prog 156 (.slice 161):=⟨Tryz.underlying156⟩
instance:Und Tryz.prog 184 (.pointer 186):=⟨Tryz.underlying184⟩
instance:Und Tryz.prog 212 (.pointer 5):=⟨Tryz.underlying212⟩
set_option linter.unusedVariables false
theorem lay9:lay Tryz.prog 9=some (false,1):=by kernel_rfl
instance:Lay Tryz.prog 9 (false,1):=⟨lay9⟩
theorem el34:Elem Tryz.prog 34 9 1:=zF5 kr
theorem lay34:lay Tryz.prog 34=some (false,1):=by kernel_rfl
instance:Lay Tryz.prog 34 (false,1):=⟨lay34⟩
theorem el33:Elem Tryz.prog 33 34 1:=zF5 kr
theorem zOw:fld Tryz.prog 64 0=some 0:=by kernel_rfl
instance:Fld Tryz.prog 64 0 0:=⟨zOw⟩
theorem zPG:fld Tryz.prog 64 1=some 1:=by kernel_rfl
instance:Fld Tryz.prog 64 1 1:=⟨zPG⟩
theorem el26:Elem Tryz.prog 26 64 2:=zF5 kr
theorem zD8:fld Tryz.prog 36 0=some 0:=by kernel_rfl
instance:Fld Tryz.prog 36 0 0:=⟨zD8⟩
theorem lay33:lay Tryz.prog 33=some (false,1):=by kernel_rfl
instance:Lay Tryz.prog 33 (false,1):=⟨lay33⟩
theorem zCc:fld Tryz.prog 36 1=some 1:=by kernel_rfl
instance:Fld Tryz.prog 36 1 1:=⟨zCc⟩
theorem zCU:fld Tryz.prog 36 2=some 2:=by kernel_rfl
instance:Fld Tryz.prog 36 2 2:=⟨zCU⟩
theorem zPQ:fld Tryz.prog 36 3=some 3:=by kernel_rfl
instance:Fld Tryz.prog 36 3 3:=⟨zPQ⟩
theorem zPD:fld Tryz.prog 36 5=some 5:=by kernel_rfl
instance:Fld Tryz.prog 36 5 5:=⟨zPD⟩
theorem zCX:fld Tryz.prog 36 4=some 4:=by kernel_rfl
instance:Fld Tryz.prog 36 4 4:=⟨zCX⟩
theorem lay26:lay Tryz.prog 26=some (false,1):=by kernel_rfl
instance:Lay Tryz.prog 26 (false,1):=⟨lay26⟩
theorem zFB:fld Tryz.prog 68 0=some 0:=by kernel_rfl
instance:Fld Tryz.prog 68 0 0:=⟨zFB⟩
theorem zHP:fld Tryz.prog 68 1=some 1:=by kernel_rfl
instance:Fld Tryz.prog 68 1 1:=⟨zHP⟩
theorem el22:Elem Tryz.prog 22 68 2:=zF5 kr
theorem zBV:fld Tryz.prog 25 1=some 1:=by kernel_rfl
instance:Fld Tryz.prog 25 1 1:=⟨zBV⟩
theorem lay23:lay Tryz.prog 23=some (false,1):=by kernel_rfl
instance:Lay Tryz.prog 23 (false,1):=⟨lay23⟩
theorem lay36:lay Tryz.prog 36=some (true,8):=by kernel_rfl
instance:Lay Tryz.prog 36 (true,8):=⟨lay36⟩
theorem el23:Elem Tryz.prog 23 36 8:=zF5 kr
theorem zBw:fld Tryz.prog 25 0=some 0:=by kernel_rfl
instance:Fld Tryz.prog 25 0 0:=⟨zBw⟩
theorem lay22:lay Tryz.prog 22=some (false,1):=by kernel_rfl
instance:Lay Tryz.prog 22 (false,1):=⟨lay22⟩
theorem lay68:lay Tryz.prog 68=some (true,2):=by kernel_rfl
instance:Lay Tryz.prog 68 (true,2):=⟨lay68⟩
theorem bp68:zEe Tryz.prog 68=some [(0,1),(1,1)]:=by kernel_rfl
theorem zer68:zer Tryz.prog 68=some [(str []),(.slice none 0 0)]:=by kernel_rfl
theorem zer36:zer Tryz.prog 36=some [(.slice none 0 0),(.slice none 0 0),(.slice none 0 0),(str []),(.slice none 0 0),(str []),(int 0),(int 0)]:=by kernel_rfl
theorem bp25:zEe Tryz.prog 25=some [(0,1),(1,1)]:=by kernel_rfl
theorem zer25:zer Tryz.prog 25=some [(.slice none 0 0),(.slice none 0 0)]:=by kernel_rfl
theorem lay25:lay Tryz.prog 25=some (true,2):=by kernel_rfl
instance:Lay Tryz.prog 25 (true,2):=⟨lay25⟩
theorem lay64:lay Tryz.prog 64=some (true,2):=by kernel_rfl
instance:Lay Tryz.prog 64 (true,2):=⟨lay64⟩
theorem ps64:zLa Tryz.prog 64=true:=by kernel_rfl
theorem fk64:zLc Tryz.prog 64=[some 2,some 2]:=by kernel_rfl
theorem zPA:fld Tryz.prog 36 6=some 6:=by kernel_rfl
instance:Fld Tryz.prog 36 6 6:=⟨zPA⟩
theorem lay2:lay Tryz.prog 2=some (false,1):=by kernel_rfl
instance:Lay Tryz.prog 2 (false,1):=⟨lay2⟩
theorem zPB:fld Tryz.prog 36 7=some 7:=by kernel_rfl
instance:Fld Tryz.prog 36 7 7:=⟨zPB⟩
theorem zer64:zer Tryz.prog 64=some [(str []),(str [])]:=by kernel_rfl
theorem lay5:lay Tryz.prog 5=some (false,1):=by kernel_rfl
instance:Lay Tryz.prog 5 (false,1):=⟨lay5⟩
theorem el128:Elem Tryz.prog 128 5 1:=zF5 kr
theorem bp152:zEe Tryz.prog 152=some []:=by kernel_rfl
theorem zPh:zer Tryz.prog 152=some []:=by kernel_rfl
theorem bp153:zEe Tryz.prog 153=some []:=by kernel_rfl
theorem zPW:zer Tryz.prog 153=some []:=by kernel_rfl
theorem bp155:zEe Tryz.prog 155=some []:=by kernel_rfl
theorem zPi:zer Tryz.prog 155=some []:=by kernel_rfl
theorem zPZ:zer Tryz.prog 168=some (List.replicate 256 (boo false)):=by kernel_rfl
theorem zOm:lay Tryz.prog 168=some (true,256):=by kernel_rfl
instance:Lay Tryz.prog 168 (true,256):=⟨zOm⟩
theorem bp161:zEe Tryz.prog 161=some [(0,1),(1,1)]:=by kernel_rfl
theorem zJb:zer Tryz.prog 161=some [(str []),(str [])]:=by kernel_rfl
theorem el156:Elem Tryz.prog 156 161 2:=zF5 kr
theorem bp158:zEe Tryz.prog 158=some [(0,1),(1,1),(2,1)]:=by kernel_rfl
theorem zDq:zer Tryz.prog 158=some [(str []),(str []),(.slice none 0 0)]:=by kernel_rfl
theorem zBJ:lay Tryz.prog 158=some (true,3):=by kernel_rfl
instance:Lay Tryz.prog 158 (true,3):=⟨zBJ⟩
theorem zNj:fld Tryz.prog 158 0=some 0:=by kernel_rfl
instance:Fld Tryz.prog 158 0 0:=⟨zNj⟩
theorem zNp:fld Tryz.prog 158 1=some 1:=by kernel_rfl
instance:Fld Tryz.prog 158 1 1:=⟨zNp⟩
theorem zOB:fld Tryz.prog 161 0=some 0:=by kernel_rfl
instance:Fld Tryz.prog 161 0 0:=⟨zOB⟩
theorem zGm:lay Tryz.prog 161=some (true,2):=by kernel_rfl
instance:Lay Tryz.prog 161 (true,2):=⟨zGm⟩
theorem zNz:fld Tryz.prog 158 2=some 2:=by kernel_rfl
instance:Fld Tryz.prog 158 2 2:=⟨zNz⟩
theorem zOp:lay Tryz.prog 156=some (false,1):=by kernel_rfl
instance:Lay Tryz.prog 156 (false,1):=⟨zOp⟩
theorem zer9:zer Tryz.prog 9=some [(str [])]:=by kernel_rfl
theorem mz4:((Tryz.prog.info? 4).bind (·.zero))=some (boo false):=by kernel_rfl
theorem lay3:lay Tryz.prog 3=some (false,1):=by kernel_rfl
instance:Lay Tryz.prog 3 (false,1):=⟨lay3⟩
theorem zer3:zer Tryz.prog 3=some [(int 0)]:=by kernel_rfl
theorem zOe:zer Tryz.prog 236=some [(int 0),(int 0),(int 0),(int 0),(int 0)]:=by kernel_rfl
theorem inf3:∃ i,Tryz.prog.info? 3=some i:=Option.isSome_iff_exists.1 kr
theorem el118:Elem Tryz.prog 118 3 1:=zF5 kr
theorem zOc:lay Tryz.prog 236=some (true,5):=by kernel_rfl
instance:Lay Tryz.prog 236 (true,5):=⟨zOc⟩
theorem zN5:fld Tryz.prog 186 0=some 0:=by kernel_rfl
instance:Fld Tryz.prog 186 0 0:=⟨zN5⟩
theorem zOi:lay Tryz.prog 184=some (false,1):=by kernel_rfl
instance:Lay Tryz.prog 184 (false,1):=⟨zOi⟩
theorem zOb:lay Tryz.prog 186=some (true,2):=by kernel_rfl
instance:Lay Tryz.prog 186 (true,2):=⟨zOb⟩
theorem zOh:∃ i,Tryz.prog.info? 186=some i:=Option.isSome_iff_exists.1 kr
theorem zPg:Tryz.prog.cellsOf 186=2:=by kernel_rfl
theorem zFP:fld Tryz.prog 186 1=some 1:=by kernel_rfl
instance:Fld Tryz.prog 186 1 1:=⟨zFP⟩
theorem zOg:lay Tryz.prog 128=some (false,1):=by kernel_rfl
instance:Lay Tryz.prog 128 (false,1):=⟨zOg⟩
theorem zOC:fld Tryz.prog 161 1=some 1:=by kernel_rfl
instance:Fld Tryz.prog 161 1 1:=⟨zOC⟩
theorem ceo5:Tryz.prog.cellsOf 5=1:=by kernel_rfl
theorem zPf:zer Tryz.prog 186=some [(.pointer none),(.slice none 0 0)]:=by kernel_rfl
theorem mz237:((Tryz.prog.info? 237).bind (·.zero))=some .nilFunc:=by kernel_rfl
theorem bp147:zEe Tryz.prog 147=some [(0,1),(1,1)]:=by kernel_rfl
theorem zJa:zer Tryz.prog 147=some [(str []),(int 0)]:=by kernel_rfl
theorem zGg:lay Tryz.prog 147=some (true,2):=by kernel_rfl
instance:Lay Tryz.prog 147 (true,2):=⟨zGg⟩
theorem el122:Elem Tryz.prog 122 147 2:=zF5 kr
theorem zNw:fld Tryz.prog 147 0=some 0:=by kernel_rfl
instance:Fld Tryz.prog 147 0 0:=⟨zNw⟩
theorem zOK:fld Tryz.prog 147 1=some 1:=by kernel_rfl
instance:Fld Tryz.prog 147 1 1:=⟨zOK⟩
theorem zer34:zer Tryz.prog 34=some [(.slice none 0 0)]:=by kernel_rfl
theorem bp36:zEe Tryz.prog 36=some [(0,1),(1,1),(2,1),(3,1),(4,1),(5,1),(6,1),(7,1)]:=by kernel_rfl
theorem bp64:zEe Tryz.prog 64=some [(0,1),(1,1)]:=by kernel_rfl
def Tryz.vvariants_domain:Gvariants_domain→Value
 | .media=>.iface 152 (agg [])
 | .tags=>.iface 153 (agg [])
 | .words n=>.iface 154 (int n)
 | .texts=>.iface 155 (agg [])
theorem zGZ {c:World} {b:Hp} (hw:Holds c b) (d:List Str) (f:Str) {vl:Value} (R:Sl b vl d) {r:Str} (h:strings_Join d f=some r) :
  Cs Tryz.prog 141 [vl,(str f)] c b r :=
 zO4 Tryz.func141 rfl kr hw R h Tryz.strings_Join_none Tryz.strings_Join
theorem zEk {b:World} {c:Hp} (hw:Holds b c) (d:Str) (f:Str) {r:Int} (h:zA8 d f=some r) :
  Ci Tryz.prog 159 [(str d),(str f)] b c r :=
 zN3 Tryz.func159 rfl kr hw h Tryz.stringslite_Index_one
theorem zGG {c:World} {d:Hp} (hw:Holds c d) (b:Str) {r:Unit} (h:strings_makeASCIISet b=some r) :
  Con Tryz.prog 161 [(str b)] c d (fun H' v=>v=(.tuple ⟨[(.agg (Lib.setCells b)),(boo true)]⟩)) :=
 zNo Tryz.func161 rfl kr hw h (Tryz.strings_makeASCIISet (fun w=>(Tryz.zeroValue168 w).trans kr))
def Tryz.layIstring_ren:Go.Shelf.Ren:=⟨fun | 17=>262 | 22=>184 | 29=>221 | 30=>222 | 36=>253 | n=>n,fun | 0=>0 | 3=>3 | 4=>4 | 9=>9 | 24=>34 | n=>n,fun | n=>n⟩
theorem Tryz.layIstring:Lays2.n22 Tryz.prog Tryz.layIstring_ren:={
 mixed:=by kernel_rfl
 f17:=Tryz.func262.trans (congrArg some kr)
 f22:=Tryz.func184.trans (congrArg some kr)
 f29:=Tryz.func221.trans (congrArg some kr)
 f30:=Tryz.func222.trans (congrArg some kr)
 f36:=Tryz.func253.trans (congrArg some kr)
 t0:=Tryz.underlying0
 a0:=Tryz.isAgg0
 z0:=Tryz.sizeOf0
 v0:=Tryz.zeroValue0
 t3:=Tryz.underlying3
 a3:=Tryz.isAgg3
 z3:=Tryz.sizeOf3
 v3:=Tryz.zeroValue3
 t4:=Tryz.underlying4
 a4:=Tryz.isAgg4
 z4:=Tryz.sizeOf4
 v4:=Tryz.zeroValue4
 t9:=Tryz.underlying9
 a9:=Tryz.isAgg9
 z9:=Tryz.sizeOf9
 v9:=Tryz.zeroValue9
 t24:=Tryz.underlying34
 a24:=Tryz.isAgg34
 z24:=Tryz.sizeOf34
 v24:=Tryz.zeroValue34
 i9:=by kernel_rfl }
theorem zFx:InsCon Tryz.prog 184 9 (Value.string ⟨#[]⟩).cells 16:=⟨zJo Tryz.func184 rfl kr,fun b n c i vb vc cs y w=>Any2.slices_Insert_string_shift Tryz.layIstring b 0 n c i vb 0 1 vc cs [y] w,fun b n c vb vc y w=>Any2.slices_Insert_string_end_room Tryz.layIstring b 0 n c vb 0 1 vc [y] w,
 fun base n c vb vc cs y w=>Any2.slices_Insert_string_end_grow Tryz.layIstring base n c vb 0 1 vc cs [y] w,fun b n c i vb vc cs y w=>Any2.slices_Insert_string_grow Tryz.layIstring b 0 n c i vb 0 1 vc cs [y] w⟩
def Tryz.layIint_ren:Go.Shelf.Ren:=⟨fun | 21=>185 | 27=>223 | 28=>224 | 35=>254 | 39=>263 | n=>n,fun | 0=>0 | 3=>3 | 4=>4 | 22=>118 | n=>n,fun | n=>n⟩
theorem Tryz.layIint:Lays2.n21 Tryz.prog Tryz.layIint_ren:={
 mixed:=by kernel_rfl
 f21:=Tryz.func185.trans (congrArg some kr)
 f27:=Tryz.func223.trans (congrArg some kr)
 f28:=Tryz.func224.trans (congrArg some kr)
 f35:=Tryz.func254.trans (congrArg some kr)
 f39:=Tryz.func263.trans (congrArg some kr)
 t0:=Tryz.underlying0
 a0:=Tryz.isAgg0
 z0:=Tryz.sizeOf0
 v0:=Tryz.zeroValue0
 t3:=Tryz.underlying3
 a3:=Tryz.isAgg3
 z3:=Tryz.sizeOf3
 v3:=Tryz.zeroValue3
 t4:=Tryz.underlying4
 a4:=Tryz.isAgg4
 z4:=Tryz.sizeOf4
 v4:=Tryz.zeroValue4
 t22:=Tryz.underlying118
 a22:=Tryz.isAgg118
 z22:=Tryz.sizeOf118
 v22:=Tryz.zeroValue118
 i3:=by kernel_rfl }
theorem zGo:InsCon Tryz.prog 185 3 (Value.int .i64 0).cells 8:=⟨zJo Tryz.func185 rfl kr,fun b n c i vb vc cs y w=>Any2.slices_Insert_int_shift Tryz.layIint b 0 n c i vb 0 1 vc cs [y] w,fun b n c vb vc y w=>Any2.slices_Insert_int_end_room Tryz.layIint b 0 n c vb 0 1 vc [y] w,
 fun base n c vb vc cs y w=>Any2.slices_Insert_int_end_grow Tryz.layIint base n c vb 0 1 vc cs [y] w,fun b n c i vb vc cs y w=>Any2.slices_Insert_int_grow Tryz.layIint b 0 n c i vb 0 1 vc cs [y] w⟩
theorem zCT {d:World} {c:Hp} (hw:Holds d c) (f:Str) (i:UInt8) {b:Nat} (hA:At c ⟨b,0,none⟩ (setc f)) {r:Bool} (h:zAd f i=some r) :
  Cb Tryz.prog 203 [(ptr b 0),(byt i)] d c r :=
 zOS Tryz.func203 rfl kr hw hA h Tryz.asciiSet_contains
theorem zDr {p:World} {j:Hp} (hw:Holds p j) (i:(List Str)) {k:Value} (d:Sl j k i) {r:Bool} (h:zCV i=some r) :
  Cb Tryz.prog 42 [k] p j r:=by
 refine CM 23 Tryz.func42 hw fun S=>?_
 refine Ws<|Wg<|A<|We<|Ws<|Ws<|Wg<|A<|We<|B h fun u ab h=>WP.cut (fun f w=>match u with | .inl _=>∃ (v:Hp),f 0=k∧Sl v k i∧St p j w v [] | .inr _=>False) ?_ ?_
 ·refine Wb ?_
  refine WP.loopM (zDe i) (fun s f w=>match s with | l=>∃ (o:Hp),f 0=k∧f 3=(int l)∧Sl o k i∧St p j w o []) 0 u ab ?_ ?_
  ·exact ⟨j,rfl,rfl,d,S⟩
  intro l f w hI y7 b aa
  obtain ⟨o,q,t,d,S⟩:=hI
  refine Ws<|Ws<|Wg<|M' t<|M' q<|Nq d<|La<|M ?_
  refine WL.grp 3 [9,10] 11 (boo ((decide (l<(i.length:Int)))&&(decide (l<21)))) ?_ ?_
  ·rcases boolE (decide (l<(i.length:Int))) with c | c
   ·refine Gy c<|M' t<|Gy c<|La<|Pt c ?_
    exact We ⟨(andT c),ag,rfl⟩
   refine Gn c<|Gn c<|Pf c ?_
   exact We ⟨(andF c),ag,rfl⟩
  intro us
  refine We ?_
  rcases condE b with ⟨x,b⟩ | ⟨x,b⟩
  ·refine CT x<|Wk<|Ws<|Wb<|Ws<|Wg<|M' q<|M' t<|B b fun ah ac b=>W.idx (α:=Str) d rfl rfl el34 ac ?_
   rintro ai _ ad rfl
   refine Lq S ad<|Ns<|Lc<|We ?_
   rcases condE b with ⟨z,b⟩ | ⟨z,b⟩
   ·refine CT z<|Ws<|Wg<|A<|We ?_
    obtain rfl:=oi b
    obtain rfl:=aa
    exact WP.ret (Rb h S)
   refine CF z<|Wk<|Wg<|M' t<|Lg<|A<|We ?_
   obtain rfl:=oi b
   exact ⟨rfl,⟨o,q,rfl,d,S⟩⟩
  refine CF x<|Wx ?_
  obtain rfl:=oi b
  obtain rfl:=aa
  exact ⟨o,q,d,S⟩
 intro f w hM
 rcases u with _ | e
 ·obtain ⟨v,h6,d,S⟩:=hM
  refine Ws<|Wg<|M' h6<|Nq d<|Lb<|A<|We ?_
  exact WP.ret (Rb h S)
 exact hM.elim
theorem zKz {o:World} {j:Hp} (hw:Holds o j) (i:(List (List Str))) {k:Value} (c:Sl j k i) {r:Bool} (h:zHZ i=some r) :
  Cb Tryz.prog 41 [k] o j r:=by
 refine CM 23 Tryz.func41 hw fun S=>?_
 refine Ws<|Wg<|A<|We<|Ws<|Ws<|Wg<|A<|We<|B h fun u ab h=>WP.cut (fun f w=>match u with | .inl _=>∃ (v:Hp),f 0=k∧Sl v k i∧St o j w v [] | .inr _=>False) ?_ ?_
 ·refine Wb ?_
  refine WP.loopM (zFN i) (fun s f w=>match s with | l=>∃ (p:Hp),f 0=k∧f 3=(int l)∧Sl p k i∧St o j w p []) 0 u ab ?_ ?_
  ·exact ⟨j,rfl,rfl,c,S⟩
  intro l f w hI y7 b aa
  obtain ⟨p,q,t,c,S⟩:=hI
  refine Ws<|Ws<|Wg<|M' t<|M' q<|Nq c<|La<|M ?_
  refine WL.grp 3 [9,10] 11 (boo ((decide (l<(i.length:Int)))&&(decide (l<11)))) ?_ ?_
  ·rcases boolE (decide (l<(i.length:Int))) with d | d
   ·refine Gy d<|M' t<|Gy d<|La<|Pt d ?_
    exact We ⟨(andT d),ag,rfl⟩
   refine Gn d<|Gn d<|Pf d ?_
   exact We ⟨(andF d),ag,rfl⟩
  intro us
  refine We ?_
  rcases condE b with ⟨x,b⟩ | ⟨x,b⟩
  ·refine CT x<|Wk<|Ws<|Wb<|Ws<|Wg<|M' q<|M' t<|B b fun ac ad b=>W.idx (α:=(List Str)) c rfl rfl el33 ad ?_
   rintro am _ ae ⟨an,rfl,af⟩
   refine Lq S ae<|B b fun ao ah b=>W.call S rfl (zDr S.holds ac af ah) ?_
   rintro ap aq ai aj S rfl
   have c:=c.up aj
   refine No<|We ?_
   rcases condE b with ⟨z,b⟩ | ⟨z,b⟩
   ·refine CT z<|Ws<|Wg<|A<|We ?_
    obtain rfl:=oi b
    obtain rfl:=aa
    exact WP.ret (Rb h S)
   refine CF z<|Wk<|Wg<|M' t<|Lg<|A<|We ?_
   obtain rfl:=oi b
   exact ⟨rfl,⟨ai,q,rfl,c,S⟩⟩
  refine CF x<|Wx ?_
  obtain rfl:=oi b
  obtain rfl:=aa
  exact ⟨p,q,c,S⟩
 intro f w hM
 rcases u with _ | e
 ·obtain ⟨v,h6,c,S⟩:=hM
  refine Ws<|Wg<|M' h6<|Nq c<|Lb<|A<|We ?_
  exact WP.ret (Rb h S)
 exact hM.elim
theorem zJT {v:World} {l:Hp} (hw:Holds v l) (k:(List GField)) {o:Value} (d:Sl l o k) {r:Bool} (h:zF8 k=some r) :
  Cb Tryz.prog 10 [o] v l r:=by
 refine CM 33 Tryz.func10 hw fun S=>?_
 refine Ws<|Wg<|A<|We<|Ws<|Ws<|Wg<|A<|We<|B h fun x ad h=>WP.cut (fun f w=>match x with | .inl _=>∃ (z:Hp),f 0=o∧Sl z o k∧St v l w z [] | .inr _=>False) ?_ ?_
 ·refine Wb ?_
  refine WP.loopM (zEJ k) (fun s f w=>match s with | p=>∃ (q:Hp),f 0=o∧f 3=(int p)∧Sl q o k∧St v l w q []) 0 x ad ?_ ?_
  ·exact ⟨l,rfl,rfl,d,S⟩
  intro p f w hI y7 c ac
  obtain ⟨q,t,u,d,S⟩:=hI
  refine Ws<|Ws<|Wg<|M' u<|M' t<|Nq d<|La<|M ?_
  refine WL.grp 3 [9,10] 11 (boo ((decide (p<(k.length:Int)))&&(decide (p<71)))) ?_ ?_
  ·rcases boolE (decide (p<(k.length:Int))) with i | i
   ·refine Gy i<|M' u<|Gy i<|La<|Pt i ?_
    exact We ⟨(andT i),ag,rfl⟩
   refine Gn i<|Gn i<|Pf i ?_
   exact We ⟨(andF i),ag,rfl⟩
  intro us
  refine We ?_
  rcases condE c with ⟨aa,c⟩ | ⟨aa,c⟩
  ·refine CT aa<|Wk<|Ws<|Wb<|Ws<|Wg<|M' t<|M' u<|B c fun ae af c=>W.idx (α:=GField) d rfl rfl el26 af ?_
   rintro ap _ ah rfl
   refine Fc ?_
   have ai:=At.add ah 0 (by simp)
   refine Lq S ai<|Ns<|Lc<|M<|B c fun aj j c=>WL.grp 8 [22,23,24,25,26,27,28] 29 (boo aj) ?_ ?_
   ·rcases boolE (decide (300<(ae.fName.length:Int))) with b | b
    ·replace j:=condT j b
     refine Gn b<|Gn b<|Gn b<|Gn b<|Gn b<|Gn b<|Gn b<|Pt b ?_
     exact We ⟨(ob j),ag,rfl⟩
    replace j:=condF j b
    refine Gy b<|M' t<|Gy b<|M' u<|Gy b<|B j fun aq ak j=>W.idx (α:=GField) d rfl rfl el26 ak ?_
    rintro ar _ al rfl
    refine Gy b<|Fc ?_
    have am:=At.add al 1 (by simp)
    refine Gy b ?_
    refine Lq S am<|Gy b<|Ns<|Gy b<|Lc<|Pf b ?_
    exact We ⟨(ob j),ag,rfl⟩
   intro us
   refine We ?_
   rcases condE c with ⟨ab,c⟩ | ⟨ab,c⟩
   ·refine CT ab<|Ws<|Wg<|A<|We ?_
    obtain rfl:=oi c
    obtain rfl:=ac
    exact WP.ret (Rb h S)
   refine CF ab<|Wk<|Wg<|M' u<|Lg<|A<|We ?_
   obtain rfl:=oi c
   exact ⟨rfl,⟨q,t,rfl,d,S⟩⟩
  refine CF aa<|Wx ?_
  obtain rfl:=oi c
  obtain rfl:=ac
  exact ⟨q,t,d,S⟩
 intro f w hM
 rcases x with _ | e
 ·obtain ⟨z,h6,d,S⟩:=hM
  refine Ws<|Wg<|M' h6<|Nq d<|Lb<|A<|We ?_
  exact WP.ret (Rb h S)
 exact hM.elim
theorem zJ4 {w0:World} {l:Hp} (hw:Holds w0 l) (b:GEntry) {u:Value} {v:Value} {x:Value} {z:Value} (al:Sl l u b.fKeys) (ac:Sl l v b.fVary) (t:Sl l x b.fSnapshot) (f:Sl l z b.fFields) {r:Bool} (h:zGs b=some r) :
  Cb Tryz.prog 14 [(agg [u,v,x,(str b.fReason),z,(str b.fBody),(int b.fRequested),(int b.fReceived)])] w0 l r:=by
 refine CM 33 Tryz.func14 hw fun S=>?_
 refine Ws<|Wg ?_
 refine W.box [u,v,x,(str b.fReason),z,(str b.fBody),(int b.fRequested),(int b.fReceived)] S rfl rfl ?_
 intro b1 w2 S
 refine A<|We<|Ws<|Wg<|Fb ?_
 refine Lo 0 S<|B h fun r3 an h=>W.call S rfl (zKz S.holds b.fKeys al an) ?_
 rintro v4 w5 H6 ao S rfl
 have ⟨ac,t,f⟩:=U3 ao ac t f
 refine M<|B h fun af o h=>WL.grpw 4 [7,8,9] 10 (boo af) (fun w=>∃ H':Hp,H6.le H'∧St w0 l w H' [.box b1 36 [u,v,x,(str b.fReason),z,(str b.fBody),(int b.fRequested),(int b.fReceived)]]) ?_ ?_
 ·rcases boolE r3 with i | i
  ·replace o:=condT o i
   refine Gy i<|Fb<|Gy i ?_
   refine Lo 0 S<|Gy i<|B o fun a4 ap o=>W.call S rfl (zDr S.holds b.fVary ac ap) ?_
   rintro a5 a6 aq ah S rfl
   have ⟨t,f⟩:=U2 ah t f
   refine Pt i ?_
   exact We ⟨(ob o),ag,⟨aq,ah,S⟩⟩
  replace o:=condF o i
  refine Gn i<|Gn i<|Gn i<|Pf i ?_
  exact We ⟨(ob o),ag,⟨H6,lr,S⟩⟩
 intro us a7 ⟨ai,ar,S⟩
 have ⟨t,f⟩:=U2 ar t f
 refine M<|B h fun aa p h=>WL.grpw 4 [12,13,14] 15 (boo aa) (fun w=>∃ H':Hp,ai.le H'∧St w0 l w H' [.box b1 36 [u,v,x,(str b.fReason),z,(str b.fBody),(int b.fRequested),(int b.fReceived)]]) ?_ ?_
 ·rcases boolE af with j | j
  ·replace p:=condT p j
   refine Gy j<|Fb<|Gy j ?_
   refine Lo 0 S<|Gy j<|B p fun a8 au p=>W.call S rfl (zDr S.holds b.fSnapshot t au) ?_
   rintro a9 ba av aj S rfl
   have f:=f.up aj
   refine Pt j ?_
   exact We ⟨(ob p),ag,⟨av,aj,S⟩⟩
  replace p:=condF p j
  refine Gn j<|Gn j<|Gn j<|Pf j ?_
  exact We ⟨(ob p),ag,⟨ai,lr,S⟩⟩
 intro us bb ⟨ak,aw,S⟩
 have f:=f.up aw
 refine M ?_
 refine WL.grp 5 [17,18,19,20] 21 (boo (aa&&(decide ((b.fReason.length:Int)≤100)))) ?_ ?_
 ·rcases boolE aa with c | c
  ·refine Gy c<|Fb<|Gy c ?_
   refine Lo 0 S<|Gy c<|Ns<|Gy c<|Lb<|Pt c ?_
   exact We ⟨(andT c),ag,rfl⟩
  refine Gn c<|Gn c<|Gn c<|Gn c<|Pf c ?_
  exact We ⟨(andF c),ag,rfl⟩
 intro us
 refine M ?_
 refine WL.grp 5 [23,24,25,26] 27 (boo ((aa&&(decide ((b.fReason.length:Int)≤100)))&&(decide ((b.fBody.length:Int)≤2000)))) ?_ ?_
 ·rcases boolE (aa&&(decide ((b.fReason.length:Int)≤100))) with d | d
  ·refine Gy d<|Fb<|Gy d ?_
   refine Lo 0 S<|Gy d<|Ns<|Gy d<|Lb<|Pt d ?_
   exact We ⟨(andT d),ag,rfl⟩
  refine Gn d<|Gn d<|Gn d<|Gn d<|Pf d ?_
  exact We ⟨(andF d),ag,rfl⟩
 intro us
 refine M<|B h fun ax q h=>WL.grpw 4 [29,30,31] 32 (boo ax) (fun w=>∃ H':Hp,ak.le H'∧St w0 l w H' [.box b1 36 [u,v,x,(str b.fReason),z,(str b.fBody),(int b.fRequested),(int b.fReceived)]]) ?_ ?_
 ·rcases boolE ((aa&&(decide ((b.fReason.length:Int)≤100)))&&(decide ((b.fBody.length:Int)≤2000))) with k | k
  ·replace q:=condT q k
   refine Gy k<|Fb<|Gy k ?_
   refine Lo 0 S<|Gy k<|B q fun bc ay q=>W.call S rfl (zJT S.holds b.fFields f ay) ?_
   rintro bd be az a0 S rfl
   refine Pt k ?_
   exact We ⟨(ob q),ag,⟨az,a0,S⟩⟩
  replace q:=condF q k
  refine Gn k<|Gn k<|Gn k<|Pf k ?_
  exact We ⟨(ob q),ag,⟨ak,lr,S⟩⟩
 intro us bf ⟨bg,bh,S⟩
 refine A<|We ?_
 exact WP.ret (Rb h S)
theorem zKi {q:World} {k:Hp} (hw:Holds q k) (l:(List GAxis)) {o:Value} (c:Sl k o l) {r:Bool} (h:zHq l=some r) :
  Cb Tryz.prog 15 [o] q k r:=by
 refine CM 33 Tryz.func15 hw fun S=>?_
 refine Ws<|Wg<|A<|We<|Ws<|Ws<|Wg<|A<|We<|B h fun x ae h=>WP.cut (fun f w=>match x with | .inl _=>∃ (z:Hp),f 0=o∧Sl z o l∧St q k w z [] | .inr _=>False) ?_ ?_
 ·refine Wb ?_
  refine WP.loopM (zFM l) (fun s f w=>match s with | t=>∃ (p:Hp),f 0=o∧f 3=(int t)∧Sl p o l∧St q k w p []) 0 x ae ?_ ?_
  ·exact ⟨k,rfl,rfl,c,S⟩
  intro t f w hI y7 d ac
  obtain ⟨p,u,v,c,S⟩:=hI
  refine Ws<|Ws<|Wg<|M' v<|M' u<|Nq c<|La<|M ?_
  refine WL.grp 3 [9,10] 11 (boo ((decide (t<(l.length:Int)))&&(decide (t<7)))) ?_ ?_
  ·rcases boolE (decide (t<(l.length:Int))) with j | j
   ·refine Gy j<|M' v<|Gy j<|La<|Pt j ?_
    exact We ⟨(andT j),ag,rfl⟩
   refine Gn j<|Gn j<|Pf j ?_
   exact We ⟨(andF j),ag,rfl⟩
  intro us
  refine We ?_
  rcases condE d with ⟨aa,d⟩ | ⟨aa,d⟩
  ·refine CT aa<|Wk<|Ws<|Wb<|Ws<|Wg<|M' u<|M' v<|B d fun af ah d=>W.idx (α:=GAxis) c rfl rfl el22 ah ?_
   rintro ay _ ai ⟨az,rfl,a0⟩
   refine Fc ?_
   have aj:=At.add ai 0 (by simp)
   refine Lq S aj<|Ns<|Lc<|M<|B d fun ak i d=>WL.grpw 8 [22,23,24,25,26,27,28] 29 (boo ak) (fun w=>∃ H':Hp,p.le H'∧St q k w H' []) ?_ ?_
   ·rcases boolE (decide (100<(af.fName.length:Int))) with b | b
    ·replace i:=condT i b
     refine Gn b<|Gn b<|Gn b<|Gn b<|Gn b<|Gn b<|Gn b<|Pt b ?_
     exact We ⟨(ob i),ag,⟨p,lr,S⟩⟩
    replace i:=condF i b
    refine Gy b<|M' u<|Gy b<|M' v<|Gy b<|B i fun al am i=>W.idx (α:=GAxis) c rfl rfl el22 am ?_
    rintro a1 _ an ⟨a2,rfl,ao⟩
    refine Gy b<|Fc ?_
    have ap:=At.add an 1 (by simp)
    refine Gy b ?_
    refine Lq S ap<|Gy b<|B i fun a3 aq i=>W.call S rfl (zDr S.holds al.fValues ao aq) ?_
    rintro a4 a5 ar ad S rfl
    have c:=c.up ad
    refine Gy b<|No<|Pf b ?_
    exact We ⟨(ob i),ag,⟨ar,ad,S⟩⟩
   intro us a6 ⟨au,av,S⟩
   have c:=c.up av
   refine We ?_
   rcases condE d with ⟨ab,d⟩ | ⟨ab,d⟩
   ·refine CT ab<|Ws<|Wg<|A<|We ?_
    obtain rfl:=oi d
    obtain rfl:=ac
    exact WP.ret (Rb h S)
   refine CF ab<|Wk<|Wg<|M' v<|Lg<|A<|We ?_
   obtain rfl:=oi d
   exact ⟨rfl,⟨au,u,rfl,c,S⟩⟩
  refine CF aa<|Wx ?_
  obtain rfl:=oi d
  obtain rfl:=ac
  exact ⟨p,u,c,S⟩
 intro f w hM
 rcases x with _ | e
 ·obtain ⟨z,h6,c,S⟩:=hM
  refine Ws<|Wg<|M' h6<|Nq c<|Lb<|A<|We ?_
  exact WP.ret (Rb h S)
 exact hM.elim
theorem zJs {u:World} {k:Hp} (hw:Holds u k) (c:GTable) {l:Value} {o:Value} (p:Sl k l c.fAxes) (i:Sl k o c.fEntries) {r:Bool} (h:zGu c=some r) :
  Cb Tryz.prog 9 [(agg [l,o])] u k r:=by
 refine CM 31 Tryz.func9 hw fun S=>?_
 refine Ws<|Wg ?_
 refine W.box [l,o] S rfl rfl ?_
 intro v w2 S
 refine A<|We<|Ws<|Ws<|Wg<|A<|We<|B h fun ad aj h=>WP.cut (fun f w=>match ad with | .inl _=>∃ (t:Hp),f 1=(ptr v 0)∧Sl t l c.fAxes∧Sl t o c.fEntries∧St u k w t [.box v 25 [l,o]] | .inr _=>False) ?_ ?_
 ·refine Wb ?_
  refine WP.loopM (zEp c) (fun s f w=>match s with | x=>∃ (z:Hp),f 1=(ptr v 0)∧f 3=(int x)∧Sl z l c.fAxes∧Sl z o c.fEntries∧St u k w z [.box v 25 [l,o]]) 0 ad aj ?_ ?_
  ·exact ⟨k,rfl,rfl,p,i,S⟩
  intro x f w hI y9 b ah
  obtain ⟨z,h4,h6,p,i,S⟩:=hI
  refine Ws<|Ws<|Wg<|M' h6<|Fb' h4 ?_
  refine Lo 0 S<|Nq i<|La<|M ?_
  refine WL.grp 3 [10,11] 12 (boo ((decide (x<(c.fEntries.length:Int)))&&(decide (x<9)))) ?_ ?_
  ·rcases boolE (decide (x<(c.fEntries.length:Int))) with j | j
   ·refine Gy j<|M' h6<|Gy j<|La<|Pt j ?_
    exact We ⟨(andT j),ag,rfl⟩
   refine Gn j<|Gn j<|Pf j ?_
   exact We ⟨(andF j),ag,rfl⟩
  intro us
  refine We ?_
  rcases condE b with ⟨ae,b⟩ | ⟨ae,b⟩
  ·refine CT ae<|Wk<|Ws<|Wb<|Ws<|Wg<|Fb' h4 ?_
   refine Lo 0 S<|M' h6<|B b fun aa ak b=>W.idx (α:=GEntry) i rfl rfl el23 ak ?_
   rintro a5 _ al ⟨am,an,ao,ap,rfl,aq,ar,au,av⟩
   refine WL.w (R.loadHN (vs:=[am,an,ao,(str aa.fReason),ap,(str aa.fBody),(int aa.fRequested),(int aa.fReceived)]) S rfl al lay36 rfl rfl)<|B b fun a6 aw b=>W.call S rfl (zJ4 S.holds aa aq ar au av aw) ?_
   rintro a7 a8 ax ay S rfl
   have ⟨i,p⟩:=U2 ay i p
   refine No<|We ?_
   rcases condE b with ⟨af,b⟩ | ⟨af,b⟩
   ·refine CT af<|Ws<|Wg<|A<|We ?_
    obtain rfl:=oi b
    obtain rfl:=ah
    exact WP.ret (Rb h S)
   refine CF af<|Wk<|Wg<|M' h6<|Lg<|A<|We ?_
   obtain rfl:=oi b
   exact ⟨rfl,⟨ax,h4,rfl,p,i,S⟩⟩
  refine CF ae<|Wx ?_
  obtain rfl:=oi b
  obtain rfl:=ah
  exact ⟨z,h4,p,i,S⟩
 intro f w hM
 rcases ad with _ | e
 ·obtain ⟨t,h8,p,i,S⟩:=hM
  refine Ws<|Wg<|Fb' h8 ?_
  refine Lo 0 S<|Nq i<|Lb<|M<|B h fun az q h=>WL.grpw 4 [27,28,29] 30 (boo az) (fun w=>∃ H':Hp,t.le H'∧St u k w H' [.box v 25 [l,o]]) ?_ ?_
  ·rcases boolE (decide ((c.fEntries.length:Int)≤8)) with d | d
   ·replace q:=condT q d
    refine Gy d<|Fb' h8<|Gy d ?_
    refine Lo 0 S<|Gy d<|B q fun a9 a0 q=>W.call S rfl (zKi S.holds c.fAxes p a0) ?_
    rintro ba bb a1 a2 S rfl
    refine Pt d ?_
    exact We ⟨(ob q),ag,⟨a1,a2,S⟩⟩
   replace q:=condF q d
   refine Gn d<|Gn d<|Gn d<|Pf d ?_
   exact We ⟨(ob q),ag,⟨t,lr,S⟩⟩
  intro us bc ⟨bd,be,S⟩
  refine A<|We ?_
  exact WP.ret (Rb h S)
 exact hM.elim
theorem zAD {d:World} {b:Hp} (hw:Holds d b) (f:List Str) {j:Value} (k:Sl b j f) {r:List Str} (h:zAU f=some r) :
  Con Tryz.prog 83 [j] d b (fun H' v=>Sl H' v r):=by
 unfold zAU at h
 refine CM 8 Tryz.func83 hw fun S=>?_
 refine Ws<|Wg<|A<|We<|Ws<|Ws<|Wg<|M ?_
 rcases Sl.nilE k with ⟨c,hv,hl⟩ | ⟨a,n,c,hv⟩
 ·refine WL.w (R.eqNil hv rfl Tryz.underlying34)<|We<|CT rfl<|Ws<|Wg<|A<|We ?_
  refine WP.ret (Out.one rfl S rfl ?_)
  subst hl
  obtain rfl:=oi h
  exact Sl.nil
 refine WL.w (R.eqNil hv rfl Tryz.underlying34)<|We<|CF rfl<|Wk<|Ws<|Wg<|W.bslice (α:=Str) (n:=0) (ps:=[]) [] [] S el34 rfl rfl rfl (by decide) (fun i v x h=>by cases h) ?_
 intro u q t l o S
 have Rp:=k.up l
 refine M<|W.app (α:=Str) (i:=0) S el34 rfl rfl rfl o Rp h ?_
 intro z w2 H2 ac p S
 refine A<|We ?_
 refine WP.ret (Out.one rfl S rfl ?_)
 exact p
theorem zH4 {w0:World} {x:Hp} (hw:Holds w0 x) (aa:(List GAxis)) {an:Value} (b:Sl x an aa) {r:(List GAxis)} (h:zFg aa=some r) :
  Con Tryz.prog 46 [an] w0 x (fun H' v=>Sl H' v r):=by
 refine CM 23 Tryz.func46 hw fun S=>?_
 refine Ws<|Wg<|A<|We<|Ws<|Wg<|A<|We<|Ws<|Ws<|Wg<|M ?_
 refine Nq b<|M<|We ?_
 have S:=S.addNil 68 2
 refine B h fun ar a7 h=>WP.cut (fun f w=>∃ (au:Hp) (ao:Value),f 3=ao∧Sl au ao ar∧St w0 x w au [.row ao 68 2 ar.length]) ?_ ?_
 ·refine Wb ?_
  refine WP.loopM (zDy aa) (fun s f w=>match s with | (av,ay)=>∃ (H1:Hp) (z:Value),f 3=z∧f 6=an∧f 7=(int (aa.length:Int))∧f 8=(int ay)∧Sl H1 z av∧Sl H1 an aa∧St w0 x w H1 [.row z 68 2 av.length]) (([]:List GAxis),0) ar a7 ?_ ?_
  ·exact ⟨x,.slice none 0 0,rfl,rfl,rfl,rfl,Sl.nil,b,S⟩
  intro s f w hI bd d a8
  obtain ⟨av,ay⟩:=s
  obtain ⟨H1,z,h5,h6,h7,h9,c,b,S⟩:=hI
  refine Ws<|Wg<|La' h9 h7<|We<|Ws ?_
  rcases condE d with ⟨aw,d⟩ | ⟨aw,d⟩
  ·refine CT aw<|Wk<|Ws<|Wb<|Ws<|Wg<|B d fun k a9 d=>W.idx (α:=GAxis) b h6 h9 el22 a9 ?_
   rintro be _ ba ⟨ax,rfl,o⟩
   refine WL.w (R.loadHN (vs:=[(str k.fName),ax]) S rfl ba lay68 rfl rfl) ?_
   refine W.alloc [(str []),(.slice none 0 0)] S zer68 ?_
   intro bf bg S
   refine W.store (i:=0) [(str k.fName),ax] S rfl rfl rfl lay68 rfl (AllOne.all (l:=[(str k.fName),ax]) (.cons rfl (.cons (Sl.oneC o) .nil))) (Nat.le_of_ble_eq_true rfl) rfl ?_
   intro bh S
   refine We<|WP.draw kr 10 rfl (bm 10 0) rfl ?_
   have S:=S.drew
   refine At_ 0 10 1 rfl (fun _=>(R.mv (v:=z) h5)) ?_
   refine At_ 1 10 3 rfl (fun _=>(R.fieldB rfl zFB)) ?_
   refine At_ 3 10 11 rfl (fun _=>(R.fieldB rfl zHP)) ?_
   refine WA.two (i:=2) (j:=4) (bm 10 15) (bm 10 27) rfl rfl kr rfl rfl ?_ ?_
   ·refine Lo 0 S<|We<|WA.one (i:=4) (bm 10 31) rfl kr rfl ?_
    refine Lo 0 S<|We<|WA.one (i:=5) (bm 10 63) rfl kr rfl<|B d fun ad ae d=>W.call S rfl (zAD S.holds k.fValues o ae) ?_
    rintro q a0 a1 af S p
    have ⟨c,b,o⟩:=U3 af c b o
    refine We ?_
    refine At_ 6 10 127 rfl (fun _=>(R.build [(0,(str k.fName)),(1,q)] [(str k.fName),q] bp68 zer68 rfl (by obtain ⟨_,_,rfl,_⟩:=p; rfl)))<|WA.one (i:=7) (bm 10 255) rfl kr rfl<|W.bslice (α:=GAxis) [(agg [(str k.fName),q])] ([(⟨k.fName,ad⟩:GAxis)]:List GAxis) S el22 rfl rfl rfl (by decide) (Go.Eng.encS ⟨rfl,_,rfl,p⟩ enc0) ?_
    intro a2 a3 a4 ah t S
    have ⟨c,b,o,p⟩:=U4 ah c b o p
    refine We<|WA.one (i:=8) (bm 10 511) rfl kr rfl<|B d fun a5 ai d=>W.app (α:=GAxis) (i:=2) S el22 rfl rfl rfl c t ai ?_
    intro u a6 aj ak al S
    have ⟨c,b,o,p,t⟩:=U5 ak c b o p t
    refine We ?_
    refine At_ 9 10 1023 rfl (fun _=>(R.as (v:=u) rfl))<|WA.done kr<|Wg<|Lg' h9 rfl<|M<|We ?_
    obtain rfl:=oi d
    exact ⟨rfl,⟨aj,u,rfl,h6,h7,rfl,al,b,(S.pk [2])⟩⟩
   refine Lo 0 S<|We ?_
   refine WA.two (i:=2) (j:=5) (bm 10 31) (bm 10 59) rfl rfl kr rfl rfl ?_ ?_
   ·refine Lo 0 S<|We<|WA.one (i:=5) (bm 10 63) rfl kr rfl<|B d fun ad ae d=>W.call S rfl (zAD S.holds k.fValues o ae) ?_
    rintro q a0 a1 af S p
    have ⟨c,b,o⟩:=U3 af c b o
    refine We ?_
    refine At_ 6 10 127 rfl (fun _=>(R.build [(0,(str k.fName)),(1,q)] [(str k.fName),q] bp68 zer68 rfl (by obtain ⟨_,_,rfl,_⟩:=p; rfl)))<|WA.one (i:=7) (bm 10 255) rfl kr rfl<|W.bslice (α:=GAxis) [(agg [(str k.fName),q])] ([(⟨k.fName,ad⟩:GAxis)]:List GAxis) S el22 rfl rfl rfl (by decide) (Go.Eng.encS ⟨rfl,_,rfl,p⟩ enc0) ?_
    intro a2 a3 a4 ah t S
    have ⟨c,b,o,p⟩:=U4 ah c b o p
    refine We<|WA.one (i:=8) (bm 10 511) rfl kr rfl<|B d fun a5 ai d=>W.app (α:=GAxis) (i:=2) S el22 rfl rfl rfl c t ai ?_
    intro u a6 aj ak al S
    have ⟨c,b,o,p,t⟩:=U5 ak c b o p t
    refine We ?_
    refine At_ 9 10 1023 rfl (fun _=>(R.as (v:=u) rfl))<|WA.done kr<|Wg<|Lg' h9 rfl<|M<|We ?_
    obtain rfl:=oi d
    exact ⟨rfl,⟨aj,u,rfl,h6,h7,rfl,al,b,(S.pk [2])⟩⟩
   refine B d fun ad ae d=>W.call S rfl (zAD S.holds k.fValues o ae) ?_
   rintro q a0 a1 af S p
   have ⟨c,b⟩:=U2 af c b
   refine We<|WA.one (i:=2) (bm 10 63) rfl kr rfl ?_
   refine Lo 0 S<|We ?_
   refine At_ 6 10 127 rfl (fun _=>(R.build [(0,(str k.fName)),(1,q)] [(str k.fName),q] bp68 zer68 rfl (by obtain ⟨_,_,rfl,_⟩:=p; rfl)))<|WA.one (i:=7) (bm 10 255) rfl kr rfl<|W.bslice (α:=GAxis) [(agg [(str k.fName),q])] ([(⟨k.fName,ad⟩:GAxis)]:List GAxis) S el22 rfl rfl rfl (by decide) (Go.Eng.encS ⟨rfl,_,rfl,p⟩ enc0) ?_
   intro a2 a3 a4 ah t S
   have ⟨c,b⟩:=U2 ah c b
   refine We<|WA.one (i:=8) (bm 10 511) rfl kr rfl<|B d fun a5 ai d=>W.app (α:=GAxis) (i:=2) S el22 rfl rfl rfl c t ai ?_
   intro u a6 aj ak al S
   have ⟨c,b⟩:=U2 ak c b
   refine We ?_
   refine At_ 9 10 1023 rfl (fun _=>(R.as (v:=u) rfl))<|WA.done kr<|Wg<|Lg' h9 rfl<|M<|We ?_
   obtain rfl:=oi d
   exact ⟨rfl,⟨aj,u,rfl,h6,h7,rfl,al,b,(S.pk [2])⟩⟩
  refine CF aw<|Wx ?_
  obtain rfl:=oi d
  obtain rfl:=a8
  exact ⟨H1,z,h5,c,S⟩
 rintro f w ⟨au,ao,bb,bc,S⟩
 refine Ws<|Wg<|M' bb<|A<|We ?_
 exact WP.ret (Rl h S bc)
theorem zAH {d:World} {b:Hp} (hw:Holds d b) (f:List GField) {j:Value} (k:Sl b j f) {r:List GField} (h:zAf f=some r) :
  Con Tryz.prog 86 [j] d b (fun H' v=>Sl H' v r):=by
 unfold zAf at h
 refine CM 8 Tryz.func86 hw fun S=>?_
 refine Ws<|Wg<|A<|We<|Ws<|Ws<|Wg<|M ?_
 rcases Sl.nilE k with ⟨c,hv,hl⟩ | ⟨a,n,c,hv⟩
 ·refine WL.w (R.eqNil hv rfl Tryz.underlying26)<|We<|CT rfl<|Ws<|Wg<|A<|We ?_
  refine WP.ret (Out.one rfl S rfl ?_)
  subst hl
  obtain rfl:=oi h
  exact Sl.nil
 refine WL.w (R.eqNil hv rfl Tryz.underlying26)<|We<|CF rfl<|Wk<|Ws<|Wg<|W.bslice (α:=GField) (n:=0) (ps:=[]) [] [] S el26 rfl rfl rfl (by decide) (fun i v x h=>by cases h) ?_
 intro u q t l o S
 have Rp:=k.up l
 refine M<|W.app (α:=GField) (i:=0) S el26 rfl rfl rfl o Rp h ?_
 intro z w2 H2 ac p S
 refine A<|We ?_
 refine WP.ret (Out.one rfl S rfl ?_)
 exact p
end Go.Proofs
