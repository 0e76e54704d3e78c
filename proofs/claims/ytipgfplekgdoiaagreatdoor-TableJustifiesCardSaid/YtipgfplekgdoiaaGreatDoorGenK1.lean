/- A part of the proof of laws of the seat: written by program over the translation. -/
import Derived.Test.YtipgfplekgdoiaaGreatDoorEng38
import Derived.Test.YtipgfplekgdoiaaGreatDoorEng32
import Derived.Test.YtipgfplekgdoiaaGreatDoorPure3
import Derived.Test.YtipgfplekgdoiaaGreatDoorProg
import Derived.Test.YtipgfplekgdoiaaGreatDoorShelf
import Derived.Shelf.Spec.SlicesInsertGrow
import Derived.Shelf.Spec.SlicesInsert
namespace Go.Proofs
set_option maxHeartbeats 4000000
set_option maxRecDepth 10000
open Go.Eng Go.Eng.Pure
instance:Und Tryz.prog 3 (.int .i64):=⟨Tryz.underlying3⟩
instance:Und Tryz.prog 4 .bool:=⟨Tryz.underlying4⟩
instance:Und Tryz.prog 5 (.int .u8):=⟨Tryz.underlying5⟩
instance:Und Tryz.prog 9 .string:=⟨Tryz.underlying9⟩
instance:Und Tryz.prog 22 (.slice 68):=⟨Tryz.underlying22⟩
instance:Und Tryz.prog 23 (.slice 36):=⟨Tryz.underlying23⟩
instance:Und Tryz.prog 26 (.slice 64):=⟨Tryz.underlying26⟩
instance:Und Tryz.prog 33 (.slice 34):=⟨Tryz.underlying33⟩
instance:Und Tryz.prog 34 (.slice 9):=⟨Tryz.underlying34⟩
instance:Und Tryz.prog 118 (.slice 3):=⟨Tryz.underlying118⟩
instance:Und Tryz.prog 122 (.slice 147):=⟨Tryz.underlying122⟩
instance:Und Tryz.prog 128 (.slice 5):=⟨Tryz.underlying128⟩
instance:Und Tryz.prog 154 (.int .i64):=⟨Tryz.underlying154⟩
instance:Und Tryz.prog 156 (.slice 161):=⟨Tryz.underlying156⟩
instance:Und Tryz.prog 184 (.pointer 186):=⟨Tryz.underlying184⟩
instance:Und Tryz.prog 212 (.pointer 5):=⟨Tryz.underlying212⟩
set_option linter.unusedVariables false
theorem lay9:lay Tryz.prog 9=some (false,1):=by kernel_rfl
instance:Lay Tryz.prog 9 (false,1):=⟨lay9⟩
theorem el34:Elem Tryz.prog 34 9 1:=zGD kr
theorem lay34:lay Tryz.prog 34=some (false,1):=by kernel_rfl
instance:Lay Tryz.prog 34 (false,1):=⟨lay34⟩
theorem el33:Elem Tryz.prog 33 34 1:=zGD kr
theorem zPk:fld Tryz.prog 64 0=some 0:=by kernel_rfl
instance:Fld Tryz.prog 64 0 0:=⟨zPk⟩
theorem zPX:fld Tryz.prog 64 1=some 1:=by kernel_rfl
instance:Fld Tryz.prog 64 1 1:=⟨zPX⟩
theorem el26:Elem Tryz.prog 26 64 2:=zGD kr
theorem zJC:fld Tryz.prog 36 0=some 0:=by kernel_rfl
instance:Fld Tryz.prog 36 0 0:=⟨zJC⟩
theorem lay33:lay Tryz.prog 33=some (false,1):=by kernel_rfl
instance:Lay Tryz.prog 33 (false,1):=⟨lay33⟩
theorem zCf:fld Tryz.prog 36 1=some 1:=by kernel_rfl
instance:Fld Tryz.prog 36 1 1:=⟨zCf⟩
theorem zCn:fld Tryz.prog 36 2=some 2:=by kernel_rfl
instance:Fld Tryz.prog 36 2 2:=⟨zCn⟩
theorem zPx:fld Tryz.prog 36 3=some 3:=by kernel_rfl
instance:Fld Tryz.prog 36 3 3:=⟨zPx⟩
theorem zPf:fld Tryz.prog 36 5=some 5:=by kernel_rfl
instance:Fld Tryz.prog 36 5 5:=⟨zPf⟩
theorem zCd:fld Tryz.prog 36 4=some 4:=by kernel_rfl
instance:Fld Tryz.prog 36 4 4:=⟨zCd⟩
theorem lay26:lay Tryz.prog 26=some (false,1):=by kernel_rfl
instance:Lay Tryz.prog 26 (false,1):=⟨lay26⟩
theorem zOL:fld Tryz.prog 68 0=some 0:=by kernel_rfl
instance:Fld Tryz.prog 68 0 0:=⟨zOL⟩
theorem zNu:fld Tryz.prog 68 1=some 1:=by kernel_rfl
instance:Fld Tryz.prog 68 1 1:=⟨zNu⟩
theorem el22:Elem Tryz.prog 22 68 2:=zGD kr
theorem zE9:fld Tryz.prog 25 1=some 1:=by kernel_rfl
instance:Fld Tryz.prog 25 1 1:=⟨zE9⟩
theorem lay23:lay Tryz.prog 23=some (false,1):=by kernel_rfl
instance:Lay Tryz.prog 23 (false,1):=⟨lay23⟩
theorem lay36:lay Tryz.prog 36=some (true,8):=by kernel_rfl
instance:Lay Tryz.prog 36 (true,8):=⟨lay36⟩
theorem el23:Elem Tryz.prog 23 36 8:=zGD kr
theorem zPc:fld Tryz.prog 25 0=some 0:=by kernel_rfl
instance:Fld Tryz.prog 25 0 0:=⟨zPc⟩
theorem lay22:lay Tryz.prog 22=some (false,1):=by kernel_rfl
instance:Lay Tryz.prog 22 (false,1):=⟨lay22⟩
theorem lay5:lay Tryz.prog 5=some (false,1):=by kernel_rfl
instance:Lay Tryz.prog 5 (false,1):=⟨lay5⟩
theorem el128:Elem Tryz.prog 128 5 1:=zGD kr
theorem lay64:lay Tryz.prog 64=some (true,2):=by kernel_rfl
instance:Lay Tryz.prog 64 (true,2):=⟨lay64⟩
theorem zer64:zer Tryz.prog 64=some [(str []),(str [])]:=by kernel_rfl
theorem zP7:zer Tryz.prog 168=some (List.replicate 256 (boo false)):=by kernel_rfl
theorem zPK:lay Tryz.prog 168=some (true,256):=by kernel_rfl
instance:Lay Tryz.prog 168 (true,256):=⟨zPK⟩
theorem bp152:zEg Tryz.prog 152=some []:=by kernel_rfl
theorem zP0:zer Tryz.prog 152=some []:=by kernel_rfl
theorem bp153:zEg Tryz.prog 153=some []:=by kernel_rfl
theorem zP8:zer Tryz.prog 153=some []:=by kernel_rfl
theorem bp155:zEg Tryz.prog 155=some []:=by kernel_rfl
theorem zP2:zer Tryz.prog 155=some []:=by kernel_rfl
theorem bp161:zEg Tryz.prog 161=some [(0,1),(1,1)]:=by kernel_rfl
theorem zJr:zer Tryz.prog 161=some [(str []),(str [])]:=by kernel_rfl
theorem el156:Elem Tryz.prog 156 161 2:=zGD kr
theorem bp158:zEg Tryz.prog 158=some [(0,1),(1,1),(2,1)]:=by kernel_rfl
theorem zC7:zer Tryz.prog 158=some [(str []),(str []),(.slice none 0 0)]:=by kernel_rfl
theorem zAw:lay Tryz.prog 158=some (true,3):=by kernel_rfl
instance:Lay Tryz.prog 158 (true,3):=⟨zAw⟩
theorem zOT:fld Tryz.prog 158 0=some 0:=by kernel_rfl
instance:Fld Tryz.prog 158 0 0:=⟨zOT⟩
theorem zO4:fld Tryz.prog 158 1=some 1:=by kernel_rfl
instance:Fld Tryz.prog 158 1 1:=⟨zO4⟩
theorem zOp:fld Tryz.prog 161 0=some 0:=by kernel_rfl
instance:Fld Tryz.prog 161 0 0:=⟨zOp⟩
theorem zGn:lay Tryz.prog 161=some (true,2):=by kernel_rfl
instance:Lay Tryz.prog 161 (true,2):=⟨zGn⟩
theorem zOh:fld Tryz.prog 158 2=some 2:=by kernel_rfl
instance:Fld Tryz.prog 158 2 2:=⟨zOh⟩
theorem zGh:lay Tryz.prog 156=some (false,1):=by kernel_rfl
instance:Lay Tryz.prog 156 (false,1):=⟨zGh⟩
theorem zer9:zer Tryz.prog 9=some [(str [])]:=by kernel_rfl
theorem mz4:((Tryz.prog.info? 4).bind (·.zero))=some (boo false):=by kernel_rfl
theorem lay68:lay Tryz.prog 68=some (true,2):=by kernel_rfl
instance:Lay Tryz.prog 68 (true,2):=⟨lay68⟩
theorem zer68:zer Tryz.prog 68=some [(str []),(.slice none 0 0)]:=by kernel_rfl
theorem lay3:lay Tryz.prog 3=some (false,1):=by kernel_rfl
instance:Lay Tryz.prog 3 (false,1):=⟨lay3⟩
theorem zPP:zer Tryz.prog 236=some [(int 0),(int 0),(int 0),(int 0),(int 0)]:=by kernel_rfl
theorem inf3:∃ i,Tryz.prog.info? 3=some i:=Option.isSome_iff_exists.1 kr
theorem el118:Elem Tryz.prog 118 3 1:=zGD kr
theorem zPR:lay Tryz.prog 236=some (true,5):=by kernel_rfl
instance:Lay Tryz.prog 236 (true,5):=⟨zPR⟩
theorem zO1:fld Tryz.prog 186 0=some 0:=by kernel_rfl
instance:Fld Tryz.prog 186 0 0:=⟨zO1⟩
theorem zPJ:lay Tryz.prog 184=some (false,1):=by kernel_rfl
instance:Lay Tryz.prog 184 (false,1):=⟨zPJ⟩
theorem zPI:lay Tryz.prog 186=some (true,2):=by kernel_rfl
instance:Lay Tryz.prog 186 (true,2):=⟨zPI⟩
theorem zPN:∃ i,Tryz.prog.info? 186=some i:=Option.isSome_iff_exists.1 kr
theorem zP5:Tryz.prog.cellsOf 186=2:=by kernel_rfl
theorem zFa:fld Tryz.prog 186 1=some 1:=by kernel_rfl
instance:Fld Tryz.prog 186 1 1:=⟨zFa⟩
theorem zPU:lay Tryz.prog 128=some (false,1):=by kernel_rfl
instance:Lay Tryz.prog 128 (false,1):=⟨zPU⟩
theorem zOt:fld Tryz.prog 161 1=some 1:=by kernel_rfl
instance:Fld Tryz.prog 161 1 1:=⟨zOt⟩
theorem ceo5:Tryz.prog.cellsOf 5=1:=by kernel_rfl
theorem zQC:zer Tryz.prog 186=some [(.pointer none),(.slice none 0 0)]:=by kernel_rfl
theorem mz237:((Tryz.prog.info? 237).bind (·.zero))=some .nilFunc:=by kernel_rfl
theorem bp147:zEg Tryz.prog 147=some [(0,1),(1,1)]:=by kernel_rfl
theorem zGc:zer Tryz.prog 147=some [(str []),(int 0)]:=by kernel_rfl
theorem zDM:lay Tryz.prog 147=some (true,2):=by kernel_rfl
instance:Lay Tryz.prog 147 (true,2):=⟨zDM⟩
theorem el122:Elem Tryz.prog 122 147 2:=zGD kr
theorem zOe:fld Tryz.prog 147 0=some 0:=by kernel_rfl
instance:Fld Tryz.prog 147 0 0:=⟨zOe⟩
theorem zOk:fld Tryz.prog 147 1=some 1:=by kernel_rfl
instance:Fld Tryz.prog 147 1 1:=⟨zOk⟩
theorem zer3:zer Tryz.prog 3=some [(int 0)]:=by kernel_rfl
theorem zer34:zer Tryz.prog 34=some [(.slice none 0 0)]:=by kernel_rfl
theorem bp68:zEg Tryz.prog 68=some [(0,1),(1,1)]:=by kernel_rfl
theorem zer36:zer Tryz.prog 36=some [(.slice none 0 0),(.slice none 0 0),(.slice none 0 0),(str []),(.slice none 0 0),(str []),(int 0),(int 0)]:=by kernel_rfl
theorem bp25:zEg Tryz.prog 25=some [(0,1),(1,1)]:=by kernel_rfl
theorem zer25:zer Tryz.prog 25=some [(.slice none 0 0),(.slice none 0 0)]:=by kernel_rfl
theorem lay25:lay Tryz.prog 25=some (true,2):=by kernel_rfl
instance:Lay Tryz.prog 25 (true,2):=⟨lay25⟩
theorem bp36:zEg Tryz.prog 36=some [(0,1),(1,1),(2,1),(3,1),(4,1),(5,1),(6,1),(7,1)]:=by kernel_rfl
theorem bp64:zEg Tryz.prog 64=some [(0,1),(1,1)]:=by kernel_rfl
def Tryz.vvariants_domain:Gvariants_domain→Value
 | .media=>.iface 152 (agg [])
 | .tags=>.iface 153 (agg [])
 | .words n=>.iface 154 (int n)
 | .texts=>.iface 155 (agg [])
theorem zGt {w0:World} {H0:Hp} (hw:Holds w0 H0) (p_l:List Str) (p_s:Str) {vl:Value} (R:Sl (α:=Str) H0 vl p_l) {r:Str} (h:strings_Join p_l p_s=some r) :
  Con Tryz.prog 141 [vl,(str p_s)] w0 H0 (fun H' v=>v=(str r)) :=
 zPm Tryz.func141 rfl kr hw R h Tryz.strings_Join_none Tryz.strings_Join
theorem zEk {w0:World} {H0:Hp} (hw:Holds w0 H0) (p_s:Str) (p_sub:Str) {r:Int} (h:zA9 p_s p_sub=some r) :
  Con Tryz.prog 159 [(str p_s),(str p_sub)] w0 H0 (fun H' v=>v=(int r)) :=
 zOx Tryz.func159 rfl kr hw h Tryz.stringslite_Index_one
theorem zGR {w0:World} {H0:Hp} (hw:Holds w0 H0) (p_s:Str) {r:Unit} (h:strings_makeASCIISet p_s=some r) :
  Con Tryz.prog 161 [(str p_s)] w0 H0 (fun H' v=>v=(.tuple ⟨[(.agg (Lib.setCells p_s)),(boo true)]⟩)) :=
 zOc Tryz.func161 rfl kr hw h (Tryz.strings_makeASCIISet (fun w=>(Tryz.zeroValue168 w).trans kr))
def Tryz.layIstring_ren:Go.Shelf.Ren:=⟨fun | 17=>262 | 22=>184 | 29=>221 | 30=>222 | 36=>253 | n=>n,fun | 0=>0 | 3=>3 | 4=>4 | 9=>9 | 24=>34 | n=>n,fun | n=>n⟩
theorem Tryz.layIstring:Lays2.n22 Tryz.prog Tryz.layIstring_ren:={
 mixed:=by kernel_rfl
 f17:=Tryz.func262.trans (congrArg some kr)
 f22:=Tryz.func184.trans (congrArg some kr)
 f29:=Tryz.func221.trans (congrArg some kr)
 f30:=Tryz.func222.trans (congrArg some kr)
 f36:=Tryz.func253.trans (congrArg some kr)
 t0:=Tryz.underlying0
 a0:=Tryz.isAgg0
 z0:=Tryz.sizeOf0
 v0:=Tryz.zeroValue0
 t3:=Tryz.underlying3
 a3:=Tryz.isAgg3
 z3:=Tryz.sizeOf3
 v3:=Tryz.zeroValue3
 t4:=Tryz.underlying4
 a4:=Tryz.isAgg4
 z4:=Tryz.sizeOf4
 v4:=Tryz.zeroValue4
 t9:=Tryz.underlying9
 a9:=Tryz.isAgg9
 z9:=Tryz.sizeOf9
 v9:=Tryz.zeroValue9
 t24:=Tryz.underlying34
 a24:=Tryz.isAgg34
 z24:=Tryz.sizeOf34
 v24:=Tryz.zeroValue34
 i9:=by kernel_rfl }
theorem zFq:InsCon Tryz.prog 184 9 (Value.string ⟨#[]⟩).cells 16:=⟨zKG Tryz.func184 rfl kr,fun b n c i vb vc cs y w=>Any2.slices_Insert_string_shift Tryz.layIstring b 0 n c i vb 0 1 vc cs [y] w,fun b n c vb vc y w=>Any2.slices_Insert_string_end_room Tryz.layIstring b 0 n c vb 0 1 vc [y] w,
 fun base n c vb vc cs y w=>Any2.slices_Insert_string_end_grow Tryz.layIstring base n c vb 0 1 vc cs [y] w,fun b n c i vb vc cs y w=>Any2.slices_Insert_string_grow Tryz.layIstring b 0 n c i vb 0 1 vc cs [y] w⟩
def Tryz.layIint_ren:Go.Shelf.Ren:=⟨fun | 21=>185 | 27=>223 | 28=>224 | 35=>254 | 39=>263 | n=>n,fun | 0=>0 | 3=>3 | 4=>4 | 22=>118 | n=>n,fun | n=>n⟩
theorem Tryz.layIint:Lays2.n21 Tryz.prog Tryz.layIint_ren:={
 mixed:=by kernel_rfl
 f21:=Tryz.func185.trans (congrArg some kr)
 f27:=Tryz.func223.trans (congrArg some kr)
 f28:=Tryz.func224.trans (congrArg some kr)
 f35:=Tryz.func254.trans (congrArg some kr)
 f39:=Tryz.func263.trans (congrArg some kr)
 t0:=Tryz.underlying0
 a0:=Tryz.isAgg0
 z0:=Tryz.sizeOf0
 v0:=Tryz.zeroValue0
 t3:=Tryz.underlying3
 a3:=Tryz.isAgg3
 z3:=Tryz.sizeOf3
 v3:=Tryz.zeroValue3
 t4:=Tryz.underlying4
 a4:=Tryz.isAgg4
 z4:=Tryz.sizeOf4
 v4:=Tryz.zeroValue4
 t22:=Tryz.underlying118
 a22:=Tryz.isAgg118
 z22:=Tryz.sizeOf118
 v22:=Tryz.zeroValue118
 i3:=by kernel_rfl }
theorem zGw:InsCon Tryz.prog 185 3 (Value.int .i64 0).cells 8:=⟨zKG Tryz.func185 rfl kr,fun b n c i vb vc cs y w=>Any2.slices_Insert_int_shift Tryz.layIint b 0 n c i vb 0 1 vc cs [y] w,fun b n c vb vc y w=>Any2.slices_Insert_int_end_room Tryz.layIint b 0 n c vb 0 1 vc [y] w,
 fun base n c vb vc cs y w=>Any2.slices_Insert_int_end_grow Tryz.layIint base n c vb 0 1 vc cs [y] w,fun b n c i vb vc cs y w=>Any2.slices_Insert_int_grow Tryz.layIint b 0 n c i vb 0 1 vc cs [y] w⟩
theorem zCW {w0:World} {H0:Hp} (hw:Holds w0 H0) (p_as:Str) (p_c:UInt8) {b:Nat} (hA:At H0 ⟨b,0,none⟩ (setc p_as)) {r:Bool} (h:zAd p_as p_c=some r) :
  Con Tryz.prog 203 [(ptr b 0),(byt p_c)] w0 H0 (fun H' v=>v=(boo r)) :=
 zPB Tryz.func203 rfl kr hw hA h Tryz.asciiSet_contains
theorem zDk {w0:World} {H0:Hp} (hw:Holds w0 H0) (p_l:(List Str)) {vp_l:Value} (Rp_l:Sl (α:=Str) H0 vp_l p_l) {r:Bool} (h:zCh p_l=some r) :
  Con Tryz.prog 42 [vp_l] w0 H0 (fun H' v=>v=(boo r)):=by
 refine Con.mk (N:=23) Tryz.func42 rfl rfl kr rfl ?_
 have S:=St.start hw
 refine Ws<|Wg<|A<|We<|Ws<|Ws<|Wg<|A<|We<|B h fun r10 hr11 h=>WP.cut (fun f w=>match r10 with | .inl _=>∃ (H5:Hp),f 0=vp_l∧Sl (α:=Str) H5 vp_l p_l∧St w0 H0 w H5 [] | .inr _=>False) ?_ ?_
 ·refine Wb ?_
  refine WP.loopM (zDt p_l) (fun s f w=>match s with | i_3=>∃ (H1:Hp),f 0=vp_l∧f 3=(int i_3)∧Sl (α:=Str) H1 vp_l p_l∧St w0 H0 w H1 []) 0 r10 hr11 ?_ ?_
  ·exact ⟨H0,rfl,rfl,Rp_l,S⟩
  intro i_3 f w hI y7 hy8 hy9
  obtain ⟨H1,h2,h4,Rp_l,S⟩:=hI
  refine Ws<|Ws<|Wg<|M' h4<|M' h2<|Nq Rp_l<|La<|M ?_
  refine WL.grp 3 [9,10] 11 (boo ((decide (i_3<(p_l.length:Int)))&&(decide (i_3<21)))) ?_ ?_
  ·rcases boolE (decide (i_3<(p_l.length:Int))) with hb12 | hb12
   ·refine Gy hb12<|M' h4<|Gy hb12<|La<|Pt hb12 ?_
    exact We ⟨(andT hb12),ag,rfl⟩
   refine Gn hb12<|Gn hb12<|Pf hb12 ?_
   exact We ⟨(andF hb12),ag,rfl⟩
  intro us
  refine We ?_
  rcases condE hy8 with ⟨hc14,hy8⟩ | ⟨hc14,hy8⟩
  ·refine CT hc14<|Wk<|Ws<|Wb<|Ws<|Wg<|M' h2<|M' h4<|B hy8 fun x15 hx15 hy8=>W.idx (α:=Str) Rp_l rfl rfl el34 hx15 ?_
   rintro a16 _ hA17 rfl
   refine Lq S hA17<|Ns<|Lc<|We ?_
   rcases condE hy8 with ⟨hc18,hy8⟩ | ⟨hc18,hy8⟩
   ·refine CT hc18<|Ws<|Wg<|A<|We ?_
    obtain rfl:=oi hy8
    obtain rfl:=hy9
    obtain rfl:=oi h
    refine WP.ret (Out.one rfl S rfl ?_)
    exact rfl
   refine CF hc18<|Wk<|Wg<|M' h4<|Lg<|A<|We ?_
   obtain rfl:=oi hy8
   exact ⟨rfl,⟨H1,h2,rfl,Rp_l,S⟩⟩
  refine CF hc14<|Wx ?_
  obtain rfl:=oi hy8
  obtain rfl:=hy9
  exact ⟨H1,h2,Rp_l,S⟩
 intro f w hM
 rcases r10 with _ | e
 ·obtain ⟨H5,h6,Rp_l,S⟩:=hM
  refine Ws<|Wg<|M' h6<|Nq Rp_l<|Lb<|A<|We ?_
  obtain rfl:=oi h
  refine WP.ret (Out.one rfl S rfl ?_)
  exact rfl
 exact hM.elim
theorem zLA {w0:World} {H0:Hp} (hw:Holds w0 H0) (p_l:(List (List Str))) {vp_l:Value} (Rp_l:Sl (α:=(List Str)) H0 vp_l p_l) {r:Bool} (h:zHv p_l=some r) :
  Con Tryz.prog 41 [vp_l] w0 H0 (fun H' v=>v=(boo r)):=by
 refine Con.mk (N:=23) Tryz.func41 rfl rfl kr rfl ?_
 have S:=St.start hw
 refine Ws<|Wg<|A<|We<|Ws<|Ws<|Wg<|A<|We<|B h fun r10 hr11 h=>WP.cut (fun f w=>match r10 with | .inl _=>∃ (H5:Hp),f 0=vp_l∧Sl (α:=(List Str)) H5 vp_l p_l∧St w0 H0 w H5 [] | .inr _=>False) ?_ ?_
 ·refine Wb ?_
  refine WP.loopM (zFY p_l) (fun s f w=>match s with | i_3=>∃ (H1:Hp),f 0=vp_l∧f 3=(int i_3)∧Sl (α:=(List Str)) H1 vp_l p_l∧St w0 H0 w H1 []) 0 r10 hr11 ?_ ?_
  ·exact ⟨H0,rfl,rfl,Rp_l,S⟩
  intro i_3 f w hI y7 hy8 hy9
  obtain ⟨H1,h2,h4,Rp_l,S⟩:=hI
  refine Ws<|Ws<|Wg<|M' h4<|M' h2<|Nq Rp_l<|La<|M ?_
  refine WL.grp 3 [9,10] 11 (boo ((decide (i_3<(p_l.length:Int)))&&(decide (i_3<11)))) ?_ ?_
  ·rcases boolE (decide (i_3<(p_l.length:Int))) with hb12 | hb12
   ·refine Gy hb12<|M' h4<|Gy hb12<|La<|Pt hb12 ?_
    exact We ⟨(andT hb12),ag,rfl⟩
   refine Gn hb12<|Gn hb12<|Pf hb12 ?_
   exact We ⟨(andF hb12),ag,rfl⟩
  intro us
  refine We ?_
  rcases condE hy8 with ⟨hc14,hy8⟩ | ⟨hc14,hy8⟩
  ·refine CT hc14<|Wk<|Ws<|Wb<|Ws<|Wg<|M' h2<|M' h4<|B hy8 fun x15 hx15 hy8=>W.idx (α:=(List Str)) Rp_l rfl rfl el33 hx15 ?_
   rintro a16 _ hA17 ⟨v18,rfl,R19⟩
   refine Lq S hA17<|B hy8 fun r20 hr20 hy8=>W.call S rfl (zDk S.holds x15 R19 hr20) ?_
   rintro v21 w22 H23 hle24 S rfl
   have Rp_l:=Sl.mono Rp_l hle24
   refine No<|We ?_
   rcases condE hy8 with ⟨hc25,hy8⟩ | ⟨hc25,hy8⟩
   ·refine CT hc25<|Ws<|Wg<|A<|We ?_
    obtain rfl:=oi hy8
    obtain rfl:=hy9
    obtain rfl:=oi h
    refine WP.ret (Out.one rfl S rfl ?_)
    exact rfl
   refine CF hc25<|Wk<|Wg<|M' h4<|Lg<|A<|We ?_
   obtain rfl:=oi hy8
   exact ⟨rfl,⟨H23,h2,rfl,Rp_l,S⟩⟩
  refine CF hc14<|Wx ?_
  obtain rfl:=oi hy8
  obtain rfl:=hy9
  exact ⟨H1,h2,Rp_l,S⟩
 intro f w hM
 rcases r10 with _ | e
 ·obtain ⟨H5,h6,Rp_l,S⟩:=hM
  refine Ws<|Wg<|M' h6<|Nq Rp_l<|Lb<|A<|We ?_
  obtain rfl:=oi h
  refine WP.ret (Out.one rfl S rfl ?_)
  exact rfl
 exact hM.elim
theorem zHP {w0:World} {H0:Hp} (hw:Holds w0 H0) (p_l:(List GField)) {vp_l:Value} (Rp_l:Sl (α:=GField) H0 vp_l p_l) {r:Bool} (h:zFD p_l=some r) :
  Con Tryz.prog 10 [vp_l] w0 H0 (fun H' v=>v=(boo r)):=by
 refine Con.mk (N:=33) Tryz.func10 rfl rfl kr rfl ?_
 have S:=St.start hw
 refine Ws<|Wg<|A<|We<|Ws<|Ws<|Wg<|A<|We<|B h fun r10 hr11 h=>WP.cut (fun f w=>match r10 with | .inl _=>∃ (H5:Hp),f 0=vp_l∧Sl (α:=GField) H5 vp_l p_l∧St w0 H0 w H5 [] | .inr _=>False) ?_ ?_
 ·refine Wb ?_
  refine WP.loopM (zEP p_l) (fun s f w=>match s with | i_3=>∃ (H1:Hp),f 0=vp_l∧f 3=(int i_3)∧Sl (α:=GField) H1 vp_l p_l∧St w0 H0 w H1 []) 0 r10 hr11 ?_ ?_
  ·exact ⟨H0,rfl,rfl,Rp_l,S⟩
  intro i_3 f w hI y7 hy8 hy9
  obtain ⟨H1,h2,h4,Rp_l,S⟩:=hI
  refine Ws<|Ws<|Wg<|M' h4<|M' h2<|Nq Rp_l<|La<|M ?_
  refine WL.grp 3 [9,10] 11 (boo ((decide (i_3<(p_l.length:Int)))&&(decide (i_3<71)))) ?_ ?_
  ·rcases boolE (decide (i_3<(p_l.length:Int))) with hb12 | hb12
   ·refine Gy hb12<|M' h4<|Gy hb12<|La<|Pt hb12 ?_
    exact We ⟨(andT hb12),ag,rfl⟩
   refine Gn hb12<|Gn hb12<|Pf hb12 ?_
   exact We ⟨(andF hb12),ag,rfl⟩
  intro us
  refine We ?_
  rcases condE hy8 with ⟨hc14,hy8⟩ | ⟨hc14,hy8⟩
  ·refine CT hc14<|Wk<|Ws<|Wb<|Ws<|Wg<|M' h2<|M' h4<|B hy8 fun x15 hx15 hy8=>W.idx (α:=GField) Rp_l rfl rfl el26 hx15 ?_
   rintro a16 _ hA17 rfl
   refine Fc ?_
   have hA18:=At.add hA17 0 (by simp)
   refine Lq S hA18<|Ns<|Lc<|M<|B hy8 fun b25 hg20 hy8=>WL.grp 8 [22,23,24,25,26,27,28] 29 (boo b25) ?_ ?_
   ·rcases boolE (decide (300<(x15.fName.length:Int))) with hb19 | hb19
    ·replace hg20:=condT hg20 hb19
     refine Gn hb19<|Gn hb19<|Gn hb19<|Gn hb19<|Gn hb19<|Gn hb19<|Gn hb19<|Pt hb19 ?_
     exact We ⟨(congrArg boo (oi hg20)),ag,rfl⟩
    replace hg20:=condF hg20 hb19
    refine Gy hb19<|M' h2<|Gy hb19<|M' h4<|Gy hb19<|B hg20 fun x21 hx21 hg20=>W.idx (α:=GField) Rp_l rfl rfl el26 hx21 ?_
    rintro a22 _ hA23 rfl
    refine Gy hb19<|Fc ?_
    have hA24:=At.add hA23 1 (by simp)
    refine Gy hb19 ?_
    refine Lq S hA24<|Gy hb19<|Ns<|Gy hb19<|Lc<|Pf hb19 ?_
    exact We ⟨(congrArg boo (oi hg20)),ag,rfl⟩
   intro us
   refine We ?_
   rcases condE hy8 with ⟨hc26,hy8⟩ | ⟨hc26,hy8⟩
   ·refine CT hc26<|Ws<|Wg<|A<|We ?_
    obtain rfl:=oi hy8
    obtain rfl:=hy9
    obtain rfl:=oi h
    refine WP.ret (Out.one rfl S rfl ?_)
    exact rfl
   refine CF hc26<|Wk<|Wg<|M' h4<|Lg<|A<|We ?_
   obtain rfl:=oi hy8
   exact ⟨rfl,⟨H1,h2,rfl,Rp_l,S⟩⟩
  refine CF hc14<|Wx ?_
  obtain rfl:=oi hy8
  obtain rfl:=hy9
  exact ⟨H1,h2,Rp_l,S⟩
 intro f w hM
 rcases r10 with _ | e
 ·obtain ⟨H5,h6,Rp_l,S⟩:=hM
  refine Ws<|Wg<|M' h6<|Nq Rp_l<|Lb<|A<|We ?_
  obtain rfl:=oi h
  refine WP.ret (Out.one rfl S rfl ?_)
  exact rfl
 exact hM.elim
theorem zKe {w0:World} {H0:Hp} (hw:Holds w0 H0) (p_e:GEntry) {vp_e0:Value} {vp_e1:Value} {vp_e2:Value} {vp_e4:Value} (Rp_e0:Sl (α:=(List Str)) H0 vp_e0 p_e.fKeys) (Rp_e1:Sl (α:=Str) H0 vp_e1 p_e.fVary) (Rp_e2:Sl (α:=Str) H0 vp_e2 p_e.fSnapshot) (Rp_e4:Sl (α:=GField) H0 vp_e4 p_e.fFields) {r:Bool} (h:zHC p_e=some r) :
  Con Tryz.prog 14 [(agg [vp_e0,vp_e1,vp_e2,(str p_e.fReason),vp_e4,(str p_e.fBody),(int p_e.fRequested),(int p_e.fReceived)])] w0 H0 (fun H' v=>v=(boo r)):=by
 refine Con.mk (N:=33) Tryz.func14 rfl rfl kr rfl ?_
 have S:=St.start hw
 refine Ws<|Wg ?_
 refine W.box [vp_e0,vp_e1,vp_e2,(str p_e.fReason),vp_e4,(str p_e.fBody),(int p_e.fRequested),(int p_e.fReceived)] S rfl rfl ?_
 intro b1 w2 S
 refine A<|We<|Ws<|Wg<|Fb ?_
 refine Lo 0 S<|B h fun r3 hr3 h=>W.call S rfl (zLA S.holds p_e.fKeys Rp_e0 hr3) ?_
 rintro v4 w5 H6 hle7 S rfl
 have Rp_e1:=Sl.mono Rp_e1 hle7
 have Rp_e2:=Sl.mono Rp_e2 hle7
 have Rp_e4:=Sl.mono Rp_e4 hle7
 refine M<|B h fun b15 hg9 h=>WL.grpw 4 [7,8,9] 10 (boo b15) (fun w=>∃ H':Hp,H6.le H'∧St w0 H0 w H' [.box b1 36 [vp_e0,vp_e1,vp_e2,(str p_e.fReason),vp_e4,(str p_e.fBody),(int p_e.fRequested),(int p_e.fReceived)]]) ?_ ?_
 ·rcases boolE r3 with hb8 | hb8
  ·replace hg9:=condT hg9 hb8
   refine Gy hb8<|Fb<|Gy hb8 ?_
   refine Lo 0 S<|Gy hb8<|B hg9 fun r10 hr10 hg9=>W.call S rfl (zDk S.holds p_e.fVary Rp_e1 hr10) ?_
   rintro v11 w12 H13 hle14 S rfl
   have Rp_e2:=Sl.mono Rp_e2 hle14
   have Rp_e4:=Sl.mono Rp_e4 hle14
   refine Pt hb8 ?_
   exact We ⟨(congrArg boo (oi hg9)),ag,⟨H13,hle14,S⟩⟩
  replace hg9:=condF hg9 hb8
  refine Gn hb8<|Gn hb8<|Gn hb8<|Pf hb8 ?_
  exact We ⟨(congrArg boo (oi hg9)),ag,⟨H6,(Hp.le.refl _),S⟩⟩
 intro us w17 ⟨H16,hle18,S⟩
 have Rp_e2:=Sl.mono Rp_e2 hle18
 have Rp_e4:=Sl.mono Rp_e4 hle18
 refine M<|B h fun b26 hg20 h=>WL.grpw 4 [12,13,14] 15 (boo b26) (fun w=>∃ H':Hp,H16.le H'∧St w0 H0 w H' [.box b1 36 [vp_e0,vp_e1,vp_e2,(str p_e.fReason),vp_e4,(str p_e.fBody),(int p_e.fRequested),(int p_e.fReceived)]]) ?_ ?_
 ·rcases boolE b15 with hb19 | hb19
  ·replace hg20:=condT hg20 hb19
   refine Gy hb19<|Fb<|Gy hb19 ?_
   refine Lo 0 S<|Gy hb19<|B hg20 fun r21 hr21 hg20=>W.call S rfl (zDk S.holds p_e.fSnapshot Rp_e2 hr21) ?_
   rintro v22 w23 H24 hle25 S rfl
   have Rp_e4:=Sl.mono Rp_e4 hle25
   refine Pt hb19 ?_
   exact We ⟨(congrArg boo (oi hg20)),ag,⟨H24,hle25,S⟩⟩
  replace hg20:=condF hg20 hb19
  refine Gn hb19<|Gn hb19<|Gn hb19<|Pf hb19 ?_
  exact We ⟨(congrArg boo (oi hg20)),ag,⟨H16,(Hp.le.refl _),S⟩⟩
 intro us w28 ⟨H27,hle29,S⟩
 have Rp_e4:=Sl.mono Rp_e4 hle29
 refine M ?_
 refine WL.grp 5 [17,18,19,20] 21 (boo (b26&&(decide ((p_e.fReason.length:Int)≤100)))) ?_ ?_
 ·rcases boolE b26 with hb30 | hb30
  ·refine Gy hb30<|Fb<|Gy hb30 ?_
   refine Lo 0 S<|Gy hb30<|Ns<|Gy hb30<|Lb<|Pt hb30 ?_
   exact We ⟨(andT hb30),ag,rfl⟩
  refine Gn hb30<|Gn hb30<|Gn hb30<|Gn hb30<|Pf hb30 ?_
  exact We ⟨(andF hb30),ag,rfl⟩
 intro us
 refine M ?_
 refine WL.grp 5 [23,24,25,26] 27 (boo ((b26&&(decide ((p_e.fReason.length:Int)≤100)))&&(decide ((p_e.fBody.length:Int)≤2000)))) ?_ ?_
 ·rcases boolE (b26&&(decide ((p_e.fReason.length:Int)≤100))) with hb32 | hb32
  ·refine Gy hb32<|Fb<|Gy hb32 ?_
   refine Lo 0 S<|Gy hb32<|Ns<|Gy hb32<|Lb<|Pt hb32 ?_
   exact We ⟨(andT hb32),ag,rfl⟩
  refine Gn hb32<|Gn hb32<|Gn hb32<|Gn hb32<|Pf hb32 ?_
  exact We ⟨(andF hb32),ag,rfl⟩
 intro us
 refine M<|B h fun b41 hg35 h=>WL.grpw 4 [29,30,31] 32 (boo b41) (fun w=>∃ H':Hp,H27.le H'∧St w0 H0 w H' [.box b1 36 [vp_e0,vp_e1,vp_e2,(str p_e.fReason),vp_e4,(str p_e.fBody),(int p_e.fRequested),(int p_e.fReceived)]]) ?_ ?_
 ·rcases boolE ((b26&&(decide ((p_e.fReason.length:Int)≤100)))&&(decide ((p_e.fBody.length:Int)≤2000))) with hb34 | hb34
  ·replace hg35:=condT hg35 hb34
   refine Gy hb34<|Fb<|Gy hb34 ?_
   refine Lo 0 S<|Gy hb34<|B hg35 fun r36 hr36 hg35=>W.call S rfl (zHP S.holds p_e.fFields Rp_e4 hr36) ?_
   rintro v37 w38 H39 hle40 S rfl
   refine Pt hb34 ?_
   exact We ⟨(congrArg boo (oi hg35)),ag,⟨H39,hle40,S⟩⟩
  replace hg35:=condF hg35 hb34
  refine Gn hb34<|Gn hb34<|Gn hb34<|Pf hb34 ?_
  exact We ⟨(congrArg boo (oi hg35)),ag,⟨H27,(Hp.le.refl _),S⟩⟩
 intro us w43 ⟨H42,hle44,S⟩
 refine A<|We ?_
 obtain rfl:=oi h
 refine WP.ret (Out.one rfl S rfl ?_)
 exact rfl
theorem zKh {w0:World} {H0:Hp} (hw:Holds w0 H0) (p_l:(List GAxis)) {vp_l:Value} (Rp_l:Sl (α:=GAxis) H0 vp_l p_l) {r:Bool} (h:zHr p_l=some r) :
  Con Tryz.prog 15 [vp_l] w0 H0 (fun H' v=>v=(boo r)):=by
 refine Con.mk (N:=33) Tryz.func15 rfl rfl kr rfl ?_
 have S:=St.start hw
 refine Ws<|Wg<|A<|We<|Ws<|Ws<|Wg<|A<|We<|B h fun r10 hr11 h=>WP.cut (fun f w=>match r10 with | .inl _=>∃ (H5:Hp),f 0=vp_l∧Sl (α:=GAxis) H5 vp_l p_l∧St w0 H0 w H5 [] | .inr _=>False) ?_ ?_
 ·refine Wb ?_
  refine WP.loopM (zFS p_l) (fun s f w=>match s with | i_3=>∃ (H1:Hp),f 0=vp_l∧f 3=(int i_3)∧Sl (α:=GAxis) H1 vp_l p_l∧St w0 H0 w H1 []) 0 r10 hr11 ?_ ?_
  ·exact ⟨H0,rfl,rfl,Rp_l,S⟩
  intro i_3 f w hI y7 hy8 hy9
  obtain ⟨H1,h2,h4,Rp_l,S⟩:=hI
  refine Ws<|Ws<|Wg<|M' h4<|M' h2<|Nq Rp_l<|La<|M ?_
  refine WL.grp 3 [9,10] 11 (boo ((decide (i_3<(p_l.length:Int)))&&(decide (i_3<7)))) ?_ ?_
  ·rcases boolE (decide (i_3<(p_l.length:Int))) with hb12 | hb12
   ·refine Gy hb12<|M' h4<|Gy hb12<|La<|Pt hb12 ?_
    exact We ⟨(andT hb12),ag,rfl⟩
   refine Gn hb12<|Gn hb12<|Pf hb12 ?_
   exact We ⟨(andF hb12),ag,rfl⟩
  intro us
  refine We ?_
  rcases condE hy8 with ⟨hc14,hy8⟩ | ⟨hc14,hy8⟩
  ·refine CT hc14<|Wk<|Ws<|Wb<|Ws<|Wg<|M' h2<|M' h4<|B hy8 fun x15 hx15 hy8=>W.idx (α:=GAxis) Rp_l rfl rfl el22 hx15 ?_
   rintro a16 _ hA17 ⟨v18,rfl,R19⟩
   refine Fc ?_
   have hA20:=At.add hA17 0 (by simp)
   refine Lq S hA20<|Ns<|Lc<|M<|B hy8 fun b34 hg22 hy8=>WL.grpw 8 [22,23,24,25,26,27,28] 29 (boo b34) (fun w=>∃ H':Hp,H1.le H'∧St w0 H0 w H' []) ?_ ?_
   ·rcases boolE (decide (100<(x15.fName.length:Int))) with hb21 | hb21
    ·replace hg22:=condT hg22 hb21
     refine Gn hb21<|Gn hb21<|Gn hb21<|Gn hb21<|Gn hb21<|Gn hb21<|Gn hb21<|Pt hb21 ?_
     exact We ⟨(congrArg boo (oi hg22)),ag,⟨H1,(Hp.le.refl _),S⟩⟩
    replace hg22:=condF hg22 hb21
    refine Gy hb21<|M' h2<|Gy hb21<|M' h4<|Gy hb21<|B hg22 fun x23 hx23 hg22=>W.idx (α:=GAxis) Rp_l rfl rfl el22 hx23 ?_
    rintro a24 _ hA25 ⟨v26,rfl,R27⟩
    refine Gy hb21<|Fc ?_
    have hA28:=At.add hA25 1 (by simp)
    refine Gy hb21 ?_
    refine Lq S hA28<|Gy hb21<|B hg22 fun r29 hr29 hg22=>W.call S rfl (zDk S.holds x23.fValues R27 hr29) ?_
    rintro v30 w31 H32 hle33 S rfl
    have Rp_l:=Sl.mono Rp_l hle33
    refine Gy hb21<|No<|Pf hb21 ?_
    exact We ⟨(congrArg boo (oi hg22)),ag,⟨H32,hle33,S⟩⟩
   intro us w36 ⟨H35,hle37,S⟩
   have Rp_l:=Sl.mono Rp_l hle37
   refine We ?_
   rcases condE hy8 with ⟨hc38,hy8⟩ | ⟨hc38,hy8⟩
   ·refine CT hc38<|Ws<|Wg<|A<|We ?_
    obtain rfl:=oi hy8
    obtain rfl:=hy9
    obtain rfl:=oi h
    refine WP.ret (Out.one rfl S rfl ?_)
    exact rfl
   refine CF hc38<|Wk<|Wg<|M' h4<|Lg<|A<|We ?_
   obtain rfl:=oi hy8
   exact ⟨rfl,⟨H35,h2,rfl,Rp_l,S⟩⟩
  refine CF hc14<|Wx ?_
  obtain rfl:=oi hy8
  obtain rfl:=hy9
  exact ⟨H1,h2,Rp_l,S⟩
 intro f w hM
 rcases r10 with _ | e
 ·obtain ⟨H5,h6,Rp_l,S⟩:=hM
  refine Ws<|Wg<|M' h6<|Nq Rp_l<|Lb<|A<|We ?_
  obtain rfl:=oi h
  refine WP.ret (Out.one rfl S rfl ?_)
  exact rfl
 exact hM.elim
theorem zKJ {w0:World} {H0:Hp} (hw:Holds w0 H0) (p_t:GTable) {vp_t0:Value} {vp_t1:Value} (Rp_t0:Sl (α:=GAxis) H0 vp_t0 p_t.fAxes) (Rp_t1:Sl (α:=GEntry) H0 vp_t1 p_t.fEntries) {r:Bool} (h:zG4 p_t=some r) :
  Con Tryz.prog 9 [(agg [vp_t0,vp_t1])] w0 H0 (fun H' v=>v=(boo r)):=by
 refine Con.mk (N:=31) Tryz.func9 rfl rfl kr rfl ?_
 have S:=St.start hw
 refine Ws<|Wg ?_
 refine W.box [vp_t0,vp_t1] S rfl rfl ?_
 intro b1 w2 S
 refine A<|We<|Ws<|Ws<|Wg<|A<|We<|B h fun r12 hr13 h=>WP.cut (fun f w=>match r12 with | .inl _=>∃ (H7:Hp),f 1=(ptr b1 0)∧Sl (α:=GAxis) H7 vp_t0 p_t.fAxes∧Sl (α:=GEntry) H7 vp_t1 p_t.fEntries∧St w0 H0 w H7 [.box b1 25 [vp_t0,vp_t1]] | .inr _=>False) ?_ ?_
 ·refine Wb ?_
  refine WP.loopM (zEr p_t) (fun s f w=>match s with | i_5=>∃ (H3:Hp),f 1=(ptr b1 0)∧f 3=(int i_5)∧Sl (α:=GAxis) H3 vp_t0 p_t.fAxes∧Sl (α:=GEntry) H3 vp_t1 p_t.fEntries∧St w0 H0 w H3 [.box b1 25 [vp_t0,vp_t1]]) 0 r12 hr13 ?_ ?_
  ·exact ⟨H0,rfl,rfl,Rp_t0,Rp_t1,S⟩
  intro i_5 f w hI y9 hy10 hy11
  obtain ⟨H3,h4,h6,Rp_t0,Rp_t1,S⟩:=hI
  refine Ws<|Ws<|Wg<|M' h6<|Fb' h4 ?_
  refine Lo 0 S<|Nq Rp_t1<|La<|M ?_
  refine WL.grp 3 [10,11] 12 (boo ((decide (i_5<(p_t.fEntries.length:Int)))&&(decide (i_5<9)))) ?_ ?_
  ·rcases boolE (decide (i_5<(p_t.fEntries.length:Int))) with hb14 | hb14
   ·refine Gy hb14<|M' h6<|Gy hb14<|La<|Pt hb14 ?_
    exact We ⟨(andT hb14),ag,rfl⟩
   refine Gn hb14<|Gn hb14<|Pf hb14 ?_
   exact We ⟨(andF hb14),ag,rfl⟩
  intro us
  refine We ?_
  rcases condE hy10 with ⟨hc16,hy10⟩ | ⟨hc16,hy10⟩
  ·refine CT hc16<|Wk<|Ws<|Wb<|Ws<|Wg<|Fb' h4 ?_
   refine Lo 0 S<|M' h6<|B hy10 fun x17 hx17 hy10=>W.idx (α:=GEntry) Rp_t1 rfl rfl el23 hx17 ?_
   rintro a18 _ hA19 ⟨v20,v22,v24,v26,rfl,R21,R23,R25,R27⟩
   refine WL.w (R.loadHN (vs:=[v20,v22,v24,(str x17.fReason),v26,(str x17.fBody),(int x17.fRequested),(int x17.fReceived)]) S rfl hA19 lay36 rfl rfl)<|B hy10 fun r28 hr28 hy10=>W.call S rfl (zKe S.holds x17 R21 R23 R25 R27 hr28) ?_
   rintro v29 w30 H31 hle32 S rfl
   have Rp_t1:=Sl.mono Rp_t1 hle32
   have Rp_t0:=Sl.mono Rp_t0 hle32
   refine No<|We ?_
   rcases condE hy10 with ⟨hc33,hy10⟩ | ⟨hc33,hy10⟩
   ·refine CT hc33<|Ws<|Wg<|A<|We ?_
    obtain rfl:=oi hy10
    obtain rfl:=hy11
    obtain rfl:=oi h
    refine WP.ret (Out.one rfl S rfl ?_)
    exact rfl
   refine CF hc33<|Wk<|Wg<|M' h6<|Lg<|A<|We ?_
   obtain rfl:=oi hy10
   exact ⟨rfl,⟨H31,h4,rfl,Rp_t0,Rp_t1,S⟩⟩
  refine CF hc16<|Wx ?_
  obtain rfl:=oi hy10
  obtain rfl:=hy11
  exact ⟨H3,h4,Rp_t0,Rp_t1,S⟩
 intro f w hM
 rcases r12 with _ | e
 ·obtain ⟨H7,h8,Rp_t0,Rp_t1,S⟩:=hM
  refine Ws<|Wg<|Fb' h8 ?_
  refine Lo 0 S<|Nq Rp_t1<|Lb<|M<|B h fun b41 hg35 h=>WL.grpw 4 [27,28,29] 30 (boo b41) (fun w=>∃ H':Hp,H7.le H'∧St w0 H0 w H' [.box b1 25 [vp_t0,vp_t1]]) ?_ ?_
  ·rcases boolE (decide ((p_t.fEntries.length:Int)≤8)) with hb34 | hb34
   ·replace hg35:=condT hg35 hb34
    refine Gy hb34<|Fb' h8<|Gy hb34 ?_
    refine Lo 0 S<|Gy hb34<|B hg35 fun r36 hr36 hg35=>W.call S rfl (zKh S.holds p_t.fAxes Rp_t0 hr36) ?_
    rintro v37 w38 H39 hle40 S rfl
    refine Pt hb34 ?_
    exact We ⟨(congrArg boo (oi hg35)),ag,⟨H39,hle40,S⟩⟩
   replace hg35:=condF hg35 hb34
   refine Gn hb34<|Gn hb34<|Gn hb34<|Pf hb34 ?_
   exact We ⟨(congrArg boo (oi hg35)),ag,⟨H7,(Hp.le.refl _),S⟩⟩
  intro us w43 ⟨H42,hle44,S⟩
  refine A<|We ?_
  obtain rfl:=oi h
  refine WP.ret (Out.one rfl S rfl ?_)
  exact rfl
 exact hM.elim
theorem zAe {w0:World} {H0:Hp} (hw:Holds w0 H0) (p_s:Str) {r:Str} (h:zAp p_s=some r) :
  Con Tryz.prog 94 [(str p_s)] w0 H0 (fun H' v=>v=(str r)):=by
 refine Con.mk (N:=30) Tryz.func94 rfl rfl kr rfl ?_
 have S:=St.start hw
 refine Ws<|Wg<|A<|We<|Ws<|Wg<|M<|W.bytes (s:=p_s) S rfl Tryz.underlying9 Tryz.underlying128 Tryz.underlying5 ?_
 intro b1 c2 w3 hc2 S
 refine A<|We<|Ws<|Ws<|Wg<|M<|Nv<|M<|We<|B h fun m14 hr20 h=>WP.cut (fun f w=>∃ (H12:Hp),f 3=(.slice (some ⟨b1,0,none⟩) p_s.length c2)∧m14.length=p_s.length∧St w0 H0 w H12 [.box b1 5 (m14.map byt)]) ?_ ?_
 ·refine Wb ?_
  refine WP.loopM (zDH p_s) (fun s f w=>match s with | (y_8,m10)=>∃ (H4:Hp),f 3=(.slice (some ⟨b1,0,none⟩) p_s.length c2)∧f 8=(.slice (some ⟨b1,0,none⟩) p_s.length c2)∧f 9=(int (p_s.length:Int))∧f 10=(int y_8)∧m10.length=p_s.length∧St w0 H0 w H4 [.box b1 5 (m10.map byt)]) (0,p_s) m14 hr20 ?_ ?_
  ·exact ⟨H0,rfl,rfl,rfl,rfl,rfl,S⟩
  intro s f w hI y16 hy17 hy18
  obtain ⟨y_8,m10⟩:=s
  obtain ⟨H4,h5,h6,h7,h9,hL11,S⟩:=hI
  refine Ws<|Wg<|La' h9 h7<|We<|Ws ?_
  rcases condE hy17 with ⟨hc21,hy17⟩ | ⟨hc21,hy17⟩
  ·refine CT hc21<|Wk<|Ws<|Wb<|Ws<|Wg<|M' h9<|B hy17 fun c22 hc22 hy17=>?_
   have hq23:=(zAm hc22).2
   refine WL.w (R.idxB h6 h9 el128 (by have:=(zAm hc22).2; have hl:m10.length=p_s.length:=hL11; omega))<|B hy17 fun c24 hc24 hy17=>?_
   refine WL.w (R.loadB (i:=0) S rfl rfl lay5 (zAm hc24).1)<|A<|A<|We<|Ws<|Wg<|M<|Md c24 65<|M ?_
   refine WL.grp 3 [18,19] 20 (boo ((decide (65≤c24))&&(decide (c24≤90)))) ?_ ?_
   ·rcases boolE (decide (65≤c24)) with hb25 | hb25
    ·refine Gy hb25<|M<|Gy hb25<|Mb c24 90<|Pt hb25 ?_
     exact We ⟨(andT hb25),ag,rfl⟩
    refine Gn hb25<|Gn hb25<|Pf hb25 ?_
    exact We ⟨(andF hb25),ag,rfl⟩
   intro us
   refine We ?_
   rcases condE hy17 with ⟨hc27,hy17⟩ | ⟨hc27,hy17⟩
   ·refine CT hc27<|Wg<|M' h5<|M<|M<|Mg c24 97<|Mh (c24+97) 65<|B hy17 fun c28 hc28 hy17=>?_
    have hq29:=(zAm hc28).2
    refine WL.w (R.idxB rfl rfl el128 (by have:=(zAm hc28).2; have hl:m10.length=p_s.length:=hL11; omega)) ?_
    refine W.store (i:=0) ((m10.set y_8.toNat ((c24+97) - 65)).map byt) S rfl rfl rfl lay5 rfl rfl (by rw [List.length_map]; omega) (zJv _ _ _ (by omega)) ?_
    intro w30 S
    refine We<|Wg<|Lg' h9 rfl<|M<|We ?_
    obtain rfl:=oi hy17
    exact ⟨rfl,⟨H4,h5,h6,h7,rfl,(List.length_set.trans hL11),S⟩⟩
   refine CF hc27<|Wk<|Wg<|Lg' h9 rfl<|M<|We ?_
   obtain rfl:=oi hy17
   exact ⟨rfl,⟨H4,h5,h6,h7,rfl,hL11,S⟩⟩
  refine CF hc21<|Wx ?_
  obtain rfl:=oi hy17
  obtain rfl:=hy18
  exact ⟨H4,h5,hL11,S⟩
 rintro f w ⟨H12,h13,hL15,S⟩
 refine Ws<|Wg<|M' h13 ?_
 refine WL.w (R.strB (i:=0) (s:=m14) S (by rw [show m14.length=p_s.length from hL15]; exact rfl) rfl Tryz.underlying128 Tryz.underlying9 Tryz.underlying5)<|A<|We ?_
 obtain rfl:=oi h
 refine WP.ret (Out.one rfl S rfl ?_)
 exact rfl
theorem zHI {w0:World} {H0:Hp} (hw:Holds w0 H0) (p_f:GField) (c_x0:Str) {ac_x0:Addr} (Ac_x0:At H0 ac_x0 [(str c_x0)]) {r:Bool} (h:zC3 p_f c_x0=some r) :
  Con Tryz.prog 158 [(agg [(str p_f.fName),(str p_f.fValue)]),(.pointer (some ac_x0))] w0 H0 (fun H' v=>v=(boo r)):=by
 refine Con.mk (N:=17) Tryz.func158 rfl rfl kr rfl ?_
 have S:=St.start hw
 refine Ws<|Wg ?_
 refine W.box [(str p_f.fName),(str p_f.fValue)] S rfl rfl ?_
 intro b1 w2 S
 refine A<|We<|Ws<|WP.quiet S kr kr<|QFb ?_
 refine WQ.val (fun w hw=>by obtain ⟨_,hq,S⟩:=hw; exact (R.loadB (i:=0) (v:=str p_f.fName) S rfl rfl lay9 rfl))<|QNs ?_
 refine WQ.val (fun w hw=>by obtain ⟨_,hq,S⟩:=hw; exact (R.loadH (v:=str c_x0) S rfl (At.mono Ac_x0 hq (by simp)) lay9 rfl))<|QNs<|QLe<|QM<|B h fun b13 hg7 h=>WQ.grp 6 [11,12,13,14,15] 16 (boo b13) ?_ ?_
 ·rcases boolE ((p_f.fName.length:Int)==(c_x0.length:Int)) with hb6 | hb6
  ·replace hg7:=condT hg7 hb6
   refine QGy hb6<|QFb<|QGy hb6 ?_
   refine WQ.val (fun w hw=>by obtain ⟨_,hq,S⟩:=hw; exact (R.loadB (i:=0) (v:=str p_f.fName) S rfl rfl lay9 rfl))<|QGy hb6<|B hg7 fun r8 hr8 hg7=>WQ.call (v:=str r8) rfl (fun w H' hq S=>zAe S.holds p_f.fName hr8)<|QGy hb6 ?_
   refine WQ.val (fun w hw=>by obtain ⟨_,hq,S⟩:=hw; exact (R.loadH (v:=str c_x0) S rfl (At.mono Ac_x0 hq (by simp)) lay9 rfl))<|QGy hb6<|QNa<|QPt hb6 ?_
   exact WQ.nil ⟨(congrArg boo (oi hg7)),ag⟩
  replace hg7:=condF hg7 hb6
  refine QGn hb6<|QGn hb6<|QGn hb6<|QGn hb6<|QGn hb6<|QPf hb6 ?_
  exact WQ.nil ⟨(congrArg boo (oi hg7)),ag⟩
 intro us
 refine QA<|WQ.nil ?_
 intro w3 H4 hle5 S
 obtain rfl:=oi h
 refine WP.ret (Out.one rfl S rfl ?_)
 exact rfl
theorem zFg {w0:World} {H0:Hp} (hw:Holds w0 H0) (p_name:Str) {r:(GField→Option Bool)} (h:zCb p_name=some r) :
  Con Tryz.prog 129 [(str p_name)] w0 H0 (fun H' v=>∃ (k:FuncId) (c:List Value),v=.func (.func k) #[] c.toArray∧∀ {w:World} {H:Hp},H'.le H→Holds w H→∀ (x0:GField) (rr:Bool),r x0=some rr→Con Tryz.prog k ([(agg [(str x0.fName),(str x0.fValue)])]++c) w H (fun H' v=>v=(boo rr))):=by
 refine Con.mk (N:=6) Tryz.func129 rfl rfl kr rfl ?_
 have S:=St.start hw
 refine Ws<|Wg ?_
 refine W.box [(str p_name)] S rfl rfl ?_
 intro b1 w2 S
 refine A<|We<|Ws<|Wg ?_
 refine Lo 0 S<|B h fun r3 hr3 h=>W.call S rfl (zAe S.holds p_name hr3) ?_
 rintro v4 w5 H6 hle7 S rfl
 refine W.store (i:=0) [(str r3)] S rfl rfl rfl lay9 rfl rfl (Nat.le_of_ble_eq_true rfl) rfl ?_
 intro w8 S
 refine We<|Ws<|Wg ?_
 obtain ⟨H9,hle10,hs11,_,S⟩:=S.settle (i:=0) rfl
 replace S:St w0 H0 _ H9 []:=S
 have hA12:At H9 ⟨b1,0,none⟩ [(str r3)]:=⟨_,_,rfl,hs11,[],by simp⟩
 refine WL.w (R.mkFunc (vs:=[(.pointer (some ⟨b1,0,none⟩))]) rfl)<|A<|We ?_
 obtain rfl:=oi h
 refine WP.ret (Out.one rfl S rfl ?_)
 exact ⟨_,[(.pointer (some ⟨b1,0,none⟩))],rfl,fun hle hw x0 r h=>zHI hw x0 r3 (At.mono hA12 hle (by simp)) h⟩
theorem zFO {w0:World} {H0:Hp} (hw:Holds w0 H0) (p_l:(List GField)) (p_keep:(GField→Option Bool)) {vp_l:Value} {kp_keep:FuncId} {cp_keep:List Value} (Rp_l:Sl (α:=GField) H0 vp_l p_l) (Fp_keep:∀ {w:World} {H:Hp},H0.le H→Holds w H→∀ (x0:GField) (rr:Bool),p_keep x0=some rr→Con Tryz.prog kp_keep ([(agg [(str x0.fName),(str x0.fValue)])]++cp_keep) w H (fun H' v=>v=(boo rr))) {r:(List GField)} (h:zCK p_l p_keep=some r) :
  Con Tryz.prog 128 [vp_l,(.func (.func kp_keep) #[] cp_keep.toArray)] w0 H0 (fun H' v=>Sl (α:=GField) H' v r):=by
 refine Con.mk (N:=23) Tryz.func128 rfl rfl kr rfl ?_
 have S:=St.start hw
 refine Ws<|Wg<|A<|We<|Ws<|Wg<|A<|We<|Ws<|Ws<|Wg<|M ?_
 refine Nq Rp_l<|M<|We ?_
 have S:=S.addNil 64 2
 refine B h fun out_12 hr20 h=>WP.cut (fun f w=>∃ (H11:Hp) (v13:Value),f 5=v13∧Sl (α:=GField) H11 v13 out_12∧St w0 H0 w H11 [.row v13 64 2 out_12.length]) ?_ ?_
 ·refine Wb ?_
  refine WP.loopM (zBd p_l p_keep) (fun s f w=>match s with | (out_3,y_9)=>∃ (H1:Hp) (v4:Value),f 1=(.func (.func kp_keep) #[] cp_keep.toArray)∧f 5=v4∧f 8=vp_l∧f 9=(int (p_l.length:Int))∧f 10=(int y_9)∧Sl (α:=GField) H1 v4 out_3∧Sl (α:=GField) H1 vp_l p_l∧St w0 H0 w H1 [.row v4 64 2 out_3.length]) (([]:List GField),0) out_12 hr20 ?_ ?_
  ·exact ⟨H0,.slice none 0 0,rfl,rfl,rfl,rfl,rfl,Sl.nil,Rp_l,S⟩
  intro s f w hI y16 hy17 hy18
  obtain ⟨out_3,y_9⟩:=s
  obtain ⟨H1,v4,h2,h6,h7,h8,h10,R5,Rp_l,S⟩:=hI
  refine Ws<|Wg<|La' h10 h8<|We<|Ws ?_
  rcases condE hy17 with ⟨hc21,hy17⟩ | ⟨hc21,hy17⟩
  ·refine CT hc21<|Wk<|Ws<|Wb<|Ws<|Wg<|B hy17 fun x22 hx22 hy17=>W.idx (α:=GField) Rp_l h7 h10 el26 hx22 ?_
   rintro a23 _ hA24 rfl
   refine WL.w (R.loadHN (vs:=[(str x22.fName),(str x22.fValue)]) S rfl hA24 lay64 rfl rfl) ?_
   refine W.alloc [(str []),(str [])] S zer64 ?_
   intro b25 w26 S
   refine W.store (i:=0) [(str x22.fName),(str x22.fValue)] S rfl rfl rfl lay64 rfl rfl (Nat.le_of_ble_eq_true rfl) rfl ?_
   intro w27 S
   refine We<|Ws<|Wg<|M' h2 ?_
   refine WL.w (R.loadBN (i:=0) (vs:=[(str x22.fName),(str x22.fValue)]) S rfl rfl lay64 rfl rfl)<|B hy17 fun r28 hr28 hy17=>W.callv S rfl rfl (Fp_keep (S.post.le) S.holds x22 _ hr28) ?_
   rintro v29 w30 H31 hle32 S rfl
   have R5:=Sl.mono R5 hle32
   have Rp_l:=Sl.mono Rp_l hle32
   refine We ?_
   rcases condE hy17 with ⟨hc33,hy17⟩ | ⟨hc33,hy17⟩
   ·refine CT hc33<|Wg<|M' h6 ?_
    refine WL.w (R.loadBN (i:=0) (vs:=[(str x22.fName),(str x22.fValue)]) S rfl rfl lay64 rfl rfl)<|W.bslice (α:=GField) [(agg [(str x22.fName),(str x22.fValue)])] ([x22]:List GField) S el26 rfl rfl rfl (by decide) (Go.Eng.encS ⟨rfl,rfl⟩ enc0) ?_
    intro u34 w35 H36 hle37 R38 S
    have R5:=Sl.mono R5 hle37
    have Rp_l:=Sl.mono Rp_l hle37
    refine B hy17 fun l39 hl39 hy17=>W.app (α:=GField) (i:=2) S el26 rfl rfl rfl R5 R38 hl39 ?_
    intro v40 w41 H42 hle43 R44 S
    have R5:=Sl.mono R5 hle43
    have Rp_l:=Sl.mono Rp_l hle43
    refine A<|We<|Wg<|Lg' h10 rfl<|M<|We ?_
    obtain rfl:=oi hy17
    exact ⟨rfl,⟨H42,v40,h2,rfl,h7,h8,rfl,R44,Rp_l,(S.drop _ (.cons _ (.cons _ (.cons_cons _ .slnil))))⟩⟩
   refine CF hc33<|Wk<|Wg<|Lg' h10 rfl<|M<|We ?_
   obtain rfl:=oi hy17
   exact ⟨rfl,⟨H31,v4,h2,h6,h7,h8,rfl,R5,Rp_l,(S.drop _ (.cons _ (.cons_cons _ .slnil)))⟩⟩
  refine CF hc21<|Wx ?_
  obtain rfl:=oi hy17
  obtain rfl:=hy18
  exact ⟨H1,v4,h6,R5,S⟩
 rintro f w ⟨H11,v13,h15,R14,S⟩
 refine Ws<|Wg<|M' h15<|A<|We ?_
 obtain rfl:=oi h
 refine WP.ret (Out.one rfl S rfl ?_)
 exact R14
theorem zGY {w0:World} {H0:Hp} (hw:Holds w0 H0) (p_l:(List GField)) (p_name:Str) {vp_l:Value} (Rp_l:Sl (α:=GField) H0 vp_l p_l) {r:Bool} (h:zDl p_l p_name=some r) :
  Con Tryz.prog 100 [vp_l,(str p_name)] w0 H0 (fun H' v=>v=(boo r)):=by
 refine Con.mk (N:=11) Tryz.func100 rfl rfl kr rfl ?_
 have S:=St.start hw
 refine Ws<|Wg<|A<|We<|Ws<|Wg<|M<|M<|B h fun r1 hr1 h=>W.call S rfl (zFg S.holds p_name hr1) ?_
 rintro v2 w3 H4 hle5 S ⟨kr1,cr1,rfl,Fr1⟩
 have Rp_l:=Sl.mono Rp_l hle5
 refine B h fun r6 hr6 h=>W.call S rfl (zFO S.holds p_l r1 Rp_l (fun hle=>Fr1 (Hp.le.trans (Hp.le.refl _) hle)) hr6) ?_
 rintro v7 w8 H9 hle10 S R11
 refine Nq R11<|Lc<|A<|We ?_
 obtain rfl:=oi h
 refine WP.ret (Out.one rfl S rfl ?_)
 exact rfl
theorem zGb {w0:World} {H0:Hp} (hw:Holds w0 H0) (p_l:(List GField)) (p_name:Str) {vp_l:Value} (Rp_l:Sl (α:=GField) H0 vp_l p_l) {r:(List Str)} (h:zDw p_l p_name=some r) :
  Con Tryz.prog 125 [vp_l,(str p_name)] w0 H0 (fun H' v=>Sl (α:=Str) H' v r):=by
 refine Con.mk (N:=24) Tryz.func125 rfl rfl kr rfl ?_
 have S:=St.start hw
 refine Ws<|Wg<|A<|We<|Ws<|Wg<|A<|We<|Ws<|Ws<|Wg<|M ?_
 refine M<|B h fun r1 hr1 h=>W.call S rfl (zFg S.holds p_name hr1) ?_
 rintro v2 w3 H4 hle5 S ⟨kr1,cr1,rfl,Fr1⟩
 have Rp_l:=Sl.mono Rp_l hle5
 refine B h fun r6 hr6 h=>W.call S rfl (zFO S.holds p_l r1 Rp_l (fun hle=>Fr1 (Hp.le.trans (Hp.le.refl _) hle)) hr6) ?_
 rintro v7 w8 H9 hle10 S R11
 refine Nq R11<|M<|We ?_
 have S:=S.addNil 9 1
 refine B h fun out_22 hr30 h=>WP.cut (fun f w=>∃ (H21:Hp) (v23:Value),f 5=v23∧Sl (α:=Str) H21 v23 out_22∧St w0 H0 w H21 [.row v23 9 1 out_22.length]) ?_ ?_
 ·refine Wb ?_
  refine WP.loopM (zCI r6) (fun s f w=>match s with | (out_13,y_19)=>∃ (H12:Hp) (v14:Value),f 5=v14∧f 11=v7∧f 12=(int (r6.length:Int))∧f 13=(int y_19)∧Sl (α:=Str) H12 v14 out_13∧Sl (α:=GField) H12 v7 r6∧St w0 H0 w H12 [.row v14 9 1 out_13.length]) (([]:List Str),0) out_22 hr30 ?_ ?_
  ·exact ⟨H9,.slice none 0 0,rfl,rfl,rfl,rfl,Sl.nil,R11,S⟩
  intro s f w hI y26 hy27 hy28
  obtain ⟨out_13,y_19⟩:=s
  obtain ⟨H12,v14,h16,h17,h18,h20,R15,R11,S⟩:=hI
  refine Ws<|Wg<|La' h20 h18<|We<|Ws ?_
  rcases condE hy27 with ⟨hc31,hy27⟩ | ⟨hc31,hy27⟩
  ·refine CT hc31<|Wk<|Ws<|Wb<|Ws<|Wg<|B hy27 fun x32 hx32 hy27=>W.idx (α:=GField) R11 h17 h20 el26 hx32 ?_
   rintro a33 _ hA34 rfl
   refine WL.w (R.loadHN (vs:=[(str x32.fName),(str x32.fValue)]) S rfl hA34 lay64 rfl rfl) ?_
   refine W.alloc [(str []),(str [])] S zer64 ?_
   intro b35 w36 S
   refine W.store (i:=0) [(str x32.fName),(str x32.fValue)] S rfl rfl rfl lay64 rfl rfl (Nat.le_of_ble_eq_true rfl) rfl ?_
   intro w37 S
   refine We<|Wg<|M' h16<|Fb ?_
   refine Lo 0 S<|W.bslice (α:=Str) [(str x32.fValue)] ([x32.fValue]:List Str) S el34 rfl rfl rfl (by decide) (Go.Eng.encS ⟨rfl,rfl⟩ enc0) ?_
   intro u38 w39 H40 hle41 R42 S
   have R15:=Sl.mono R15 hle41
   have R11:=Sl.mono R11 hle41
   refine B hy27 fun l43 hl43 hy27=>W.app (α:=Str) (i:=2) S el34 rfl rfl rfl R15 R42 hl43 ?_
   intro v44 w45 H46 hle47 R48 S
   have R15:=Sl.mono R15 hle47
   have R11:=Sl.mono R11 hle47
   refine A<|We<|Wg<|Lg' h20 rfl<|M<|We ?_
   obtain rfl:=oi hy27
   exact ⟨rfl,⟨H46,v44,rfl,h17,h18,rfl,R48,R11,(S.drop _ (.cons _ (.cons _ (.cons_cons _ .slnil))))⟩⟩
  refine CF hc31<|Wx ?_
  obtain rfl:=oi hy27
  obtain rfl:=hy28
  exact ⟨H12,v14,h16,R15,S⟩
 rintro f w ⟨H21,v23,h25,R24,S⟩
 refine Ws<|Wg<|M' h25<|A<|We ?_
 obtain rfl:=oi h
 refine WP.ret (Out.one rfl S rfl ?_)
 exact R24
theorem zLO {w0:World} {H0:Hp} (hw:Holds w0 H0) (p_state:Int) (p_c:UInt8) {r:Int} (h:zH1 p_state p_c=some r) :
  Con Tryz.prog 153 [(int p_state),(byt p_c)] w0 H0 (fun H' v=>v=(int r)):=by
 refine Con.mk (N:=21) Tryz.func153 rfl rfl kr rfl ?_
 have S:=St.start hw
 refine Ws<|Wg<|A<|We<|Ws<|Wb<|Ws<|Wg<|M<|Le<|A<|We ?_
 rcases condE h with ⟨hc1,h⟩ | ⟨hc1,h⟩
 ·refine CT hc1<|Ws<|Wg<|A<|We ?_
  obtain rfl:=oi h
  refine WP.ret (Out.one rfl S rfl ?_)
  exact rfl
 refine CF hc1<|Ws<|Wg<|M<|Le<|M ?_
 refine WL.grp 3 [12,13] 14 (boo ((p_state==1)&&(p_c==92))) ?_ ?_
 ·rcases boolE (p_state==1) with hb2 | hb2
  ·refine Gy hb2<|M<|Gy hb2<|Me p_c 92<|Pt hb2 ?_
   exact We ⟨(andT hb2),ag,rfl⟩
  refine Gn hb2<|Gn hb2<|Pf hb2 ?_
  exact We ⟨(andF hb2),ag,rfl⟩
 intro us
 refine A<|We ?_
 rcases condE h with ⟨hc4,h⟩ | ⟨hc4,h⟩
 ·refine CT hc4<|Ws<|Wg<|A<|We ?_
  obtain rfl:=oi h
  refine WP.ret (Out.one rfl S rfl ?_)
  exact rfl
 refine CF hc4<|Ws<|Wg<|M<|Me p_c 34<|A<|We ?_
 rcases condE h with ⟨hc5,h⟩ | ⟨hc5,h⟩
 ·refine CT hc5<|Ws<|Wg<|M<|Lh<|A<|We ?_
  obtain rfl:=oi h
  refine WP.ret (Out.one rfl S rfl ?_)
  exact rfl
 refine CF hc5<|Wk<|Ws<|Wg<|M<|A<|We ?_
 obtain rfl:=oi h
 refine WP.ret (Out.one rfl S rfl ?_)
 exact rfl
theorem zFt {w0:World} {H0:Hp} (hw:Holds w0 H0) (p_s:Str) (p_c:UInt8) {r:Str} (h:zET p_s p_c=some r) :
  Con Tryz.prog 231 [(str p_s),(byt p_c)] w0 H0 (fun H' v=>v=(str r)):=by
 refine Con.mk (N:=23) Tryz.func231 rfl rfl kr rfl ?_
 have S:=St.start hw
 refine Ws<|Wg<|A<|We<|Ws<|B h fun s_6 hr12 h=>WP.cut (fun f w=>∃ (H5:Hp),f 0=(str s_6)∧St w0 H0 w H5 []) ?_ ?_
 ·refine Wb ?_
  refine WP.loopM (zDa p_c) (fun s f w=>match s with | s_2=>∃ (H1:Hp),f 0=(str s_2)∧f 1=(byt p_c)∧St w0 H0 w H1 []) p_s s_6 hr12 ?_ ?_
  ·exact ⟨H0,rfl,rfl,S⟩
  intro s_2 f w hI y8 hy9 hy10
  obtain ⟨H1,h3,h4,S⟩:=hI
  refine Ws<|Ws<|Wg<|M' h3<|Ns<|Lc<|M<|B hy9 fun b16 hg14 hy9=>WL.grp 8 [9,10,11,12,13,14,15] 16 (boo b16) ?_ ?_
  ·rcases boolE (decide (0<(s_2.length:Int))) with hb13 | hb13
   ·replace hg14:=condT hg14 hb13
    refine Gy hb13<|M' h3<|Gy hb13<|M' h3<|Gy hb13<|Ns<|Gy hb13<|Lh<|Gy hb13<|B hg14 fun c15 hc15 hg14=>Ja hc15<|Gy hb13<|M' h4<|Gy hb13<|Me c15 p_c<|Pt hb13 ?_
    exact We ⟨(congrArg boo (oi hg14)),ag,rfl⟩
   replace hg14:=condF hg14 hb13
   refine Gn hb13<|Gn hb13<|Gn hb13<|Gn hb13<|Gn hb13<|Gn hb13<|Gn hb13<|Pf hb13 ?_
   exact We ⟨(congrArg boo (oi hg14)),ag,rfl⟩
  intro us
  refine We ?_
  rcases condE hy9 with ⟨hc17,hy9⟩ | ⟨hc17,hy9⟩
  ·refine CT hc17<|Wk<|Wb<|Wg<|M' h3<|M' h3<|Ns<|Lh<|B hy9 fun s18 hs18 hy9=>Jd hs18<|A<|We ?_
   obtain rfl:=oi hy9
   exact ⟨rfl,⟨H1,rfl,h4,S⟩⟩
  refine CF hc17<|Wx ?_
  obtain rfl:=oi hy9
  obtain rfl:=hy10
  exact ⟨H1,h3,S⟩
 rintro f w ⟨H5,h7,S⟩
 refine Ws<|Wg<|M' h7<|A<|We ?_
 obtain rfl:=oi h
 refine WP.ret (Out.one rfl S rfl ?_)
 exact rfl
theorem zGL {w0:World} {H0:Hp} (hw:Holds w0 H0) (p_s:Str) (p_c:UInt8) {r:Str} (h:zEl p_s p_c=some r) :
  Con Tryz.prog 160 [(str p_s),(byt p_c)] w0 H0 (fun H' v=>v=(str r)):=by
 refine Con.mk (N:=17) Tryz.func160 rfl rfl kr rfl ?_
 have S:=St.start hw
 refine Ws<|Wg<|A<|We<|Ws<|B h fun s_6 hr12 h=>WP.cut (fun f w=>∃ (H5:Hp),f 0=(str s_6)∧St w0 H0 w H5 []) ?_ ?_
 ·refine Wb ?_
  refine WP.loopM (zD0 p_c) (fun s f w=>match s with | s_2=>∃ (H1:Hp),f 0=(str s_2)∧f 1=(byt p_c)∧St w0 H0 w H1 []) p_s s_6 hr12 ?_ ?_
  ·exact ⟨H0,rfl,rfl,S⟩
  intro s_2 f w hI y8 hy9 hy10
  obtain ⟨H1,h3,h4,S⟩:=hI
  refine Ws<|Ws<|Wg<|M' h3<|Ns<|Lc<|M<|B hy9 fun b16 hg14 hy9=>WL.grp 5 [9,10,11,12] 13 (boo b16) ?_ ?_
  ·rcases boolE (decide (0<(s_2.length:Int))) with hb13 | hb13
   ·replace hg14:=condT hg14 hb13
    refine Gy hb13<|M' h3<|Gy hb13<|B hg14 fun c15 hc15 hg14=>Ja hc15<|Gy hb13<|M' h4<|Gy hb13<|Me c15 p_c<|Pt hb13 ?_
    exact We ⟨(congrArg boo (oi hg14)),ag,rfl⟩
   replace hg14:=condF hg14 hb13
   refine Gn hb13<|Gn hb13<|Gn hb13<|Gn hb13<|Pf hb13 ?_
   exact We ⟨(congrArg boo (oi hg14)),ag,rfl⟩
  intro us
  refine We ?_
  rcases condE hy9 with ⟨hc17,hy9⟩ | ⟨hc17,hy9⟩
  ·refine CT hc17<|Wk<|Wb<|Wg<|M' h3<|B hy9 fun s18 hs18 hy9=>Jc hs18<|A<|We ?_
   obtain rfl:=oi hy9
   exact ⟨rfl,⟨H1,rfl,h4,S⟩⟩
  refine CF hc17<|Wx ?_
  obtain rfl:=oi hy9
  obtain rfl:=hy10
  exact ⟨H1,h3,S⟩
 rintro f w ⟨H5,h7,S⟩
 refine Ws<|Wg<|M' h7<|A<|We ?_
 obtain rfl:=oi h
 refine WP.ret (Out.one rfl S rfl ?_)
 exact rfl
theorem zFm {w0:World} {H0:Hp} (hw:Holds w0 H0) (p_s:Str) (p_as:Str) {bp_as:Nat} (Ap_as:At H0 ⟨bp_as,0,none⟩ (setc p_as)) {r:Str} (h:zBf p_s p_as=some r) :
  Con Tryz.prog 232 [(str p_s),(ptr bp_as 0)] w0 H0 (fun H' v=>v=(str r)):=by
 refine Con.mk (N:=22) Tryz.func232 rfl rfl kr rfl ?_
 have S:=St.start hw
 refine Ws<|Wg<|A<|We<|Ws<|B h fun s_6 hr12 h=>WP.cut (fun f w=>∃ (H5:Hp),f 0=(str s_6)∧St w0 H0 w H5 []) ?_ ?_
 ·refine Wb ?_
  refine WP.loopM (zBC p_as) (fun s f w=>match s with | s_2=>∃ (H1:Hp),f 0=(str s_2)∧f 1=(ptr bp_as 0)∧At H1 ⟨bp_as,0,none⟩ (setc p_as)∧St w0 H0 w H1 []) p_s s_6 hr12 ?_ ?_
  ·exact ⟨H0,rfl,rfl,Ap_as,S⟩
  intro s_2 f w hI y8 hy9 hy10
  obtain ⟨H1,h3,h4,Ap_as,S⟩:=hI
  refine Ws<|Ws<|Wg<|M' h3<|Ns<|Lc<|We ?_
  rcases condE hy9 with ⟨hc13,hy9⟩ | ⟨hc13,hy9⟩
  ·refine CT hc13<|Wk<|Wb<|Ws<|Ws<|Wg<|M' h4<|M' h3<|M' h3<|Ns<|Lh<|B hy9 fun c14 hc14 hy9=>Ja hc14<|B hy9 fun r15 hr15 hy9=>W.call S rfl (zCW S.holds p_as c14 Ap_as hr15) ?_
   rintro v16 w17 H18 hle19 S rfl
   have Ap_as:=At.mono Ap_as hle19 (by intro h; have:=congrArg List.length h; rw [zG3] at this; cases this)
   refine No<|We ?_
   rcases condE hy9 with ⟨hc20,hy9⟩ | ⟨hc20,hy9⟩
   ·refine CT hc20<|Wx ?_
    obtain rfl:=oi hy9
    obtain rfl:=hy10
    exact ⟨H18,h3,S⟩
   refine CF hc20<|Wk<|Wg<|M' h3<|M' h3<|Ns<|Lh<|B hy9 fun s21 hs21 hy9=>Jd hs21<|A<|We ?_
   obtain rfl:=oi hy9
   exact ⟨rfl,⟨H18,rfl,h4,Ap_as,S⟩⟩
  refine CF hc13<|Wx ?_
  obtain rfl:=oi hy9
  obtain rfl:=hy10
  exact ⟨H1,h3,S⟩
 rintro f w ⟨H5,h7,S⟩
 refine Ws<|Wg<|M' h7<|A<|We ?_
 obtain rfl:=oi h
 refine WP.ret (Out.one rfl S rfl ?_)
 exact rfl
theorem zFu {w0:World} {H0:Hp} (hw:Holds w0 H0) (p_s:Str) (p_as:Str) {bp_as:Nat} (Ap_as:At H0 ⟨bp_as,0,none⟩ (setc p_as)) {r:Str} (h:zBn p_s p_as=some r) :
  Con Tryz.prog 162 [(str p_s),(ptr bp_as 0)] w0 H0 (fun H' v=>v=(str r)):=by
 refine Con.mk (N:=16) Tryz.func162 rfl rfl kr rfl ?_
 have S:=St.start hw
 refine Ws<|Wg<|A<|We<|Ws<|B h fun s_6 hr12 h=>WP.cut (fun f w=>∃ (H5:Hp),f 0=(str s_6)∧St w0 H0 w H5 []) ?_ ?_
 ·refine Wb ?_
  refine WP.loopM (zBH p_as) (fun s f w=>match s with | s_2=>∃ (H1:Hp),f 0=(str s_2)∧f 1=(ptr bp_as 0)∧At H1 ⟨bp_as,0,none⟩ (setc p_as)∧St w0 H0 w H1 []) p_s s_6 hr12 ?_ ?_
  ·exact ⟨H0,rfl,rfl,Ap_as,S⟩
  intro s_2 f w hI y8 hy9 hy10
  obtain ⟨H1,h3,h4,Ap_as,S⟩:=hI
  refine Ws<|Ws<|Wg<|M' h3<|Ns<|Lc<|We ?_
  rcases condE hy9 with ⟨hc13,hy9⟩ | ⟨hc13,hy9⟩
  ·refine CT hc13<|Wk<|Wb<|Ws<|Ws<|Wg<|M' h4<|M' h3<|B hy9 fun c14 hc14 hy9=>Ja hc14<|B hy9 fun r15 hr15 hy9=>W.call S rfl (zCW S.holds p_as c14 Ap_as hr15) ?_
   rintro v16 w17 H18 hle19 S rfl
   have Ap_as:=At.mono Ap_as hle19 (by intro h; have:=congrArg List.length h; rw [zG3] at this; cases this)
   refine No<|We ?_
   rcases condE hy9 with ⟨hc20,hy9⟩ | ⟨hc20,hy9⟩
   ·refine CT hc20<|Wx ?_
    obtain rfl:=oi hy9
    obtain rfl:=hy10
    exact ⟨H18,h3,S⟩
   refine CF hc20<|Wk<|Wg<|M' h3<|B hy9 fun s21 hs21 hy9=>Jc hs21<|A<|We ?_
   obtain rfl:=oi hy9
   exact ⟨rfl,⟨H18,rfl,h4,Ap_as,S⟩⟩
  refine CF hc13<|Wx ?_
  obtain rfl:=oi hy9
  obtain rfl:=hy10
  exact ⟨H1,h3,S⟩
 rintro f w ⟨H5,h7,S⟩
 refine Ws<|Wg<|M' h7<|A<|We ?_
 obtain rfl:=oi h
 refine WP.ret (Out.one rfl S rfl ?_)
 exact rfl
end Go.Proofs
