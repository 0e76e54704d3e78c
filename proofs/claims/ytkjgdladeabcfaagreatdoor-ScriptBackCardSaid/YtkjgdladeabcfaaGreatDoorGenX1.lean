/- A part. -/
import Derived.Test.YtkjgdladeabcfaaGreatDoorEng38
import Derived.Test.YtkjgdladeabcfaaGreatDoorEng40
import Derived.Test.YtkjgdladeabcfaaGreatDoorPure4
import Derived.Test.YtkjgdladeabcfaaGreatDoorProg
import Derived.Test.YtkjgdladeabcfaaGreatDoorShelf
import Derived.Shelf.Spec.SlicesInsertGrow
import Derived.Shelf.Spec.SlicesInsert
namespace Go.Proofs
set_option maxHeartbeats 4000000
set_option maxRecDepth 10000
open Go.Eng Go.Eng.Pure
instance:Und Tryz.prog 2 (.int .i64):=⟨Tryz.underlying2⟩
instance:Und Tryz.prog 3 (.int .i64):=⟨Tryz.underlying3⟩
instance:Und Tryz.prog 5 (.int .u8):=⟨Tryz.underlying5⟩
instance:Und Tryz.prog 9 .string:=⟨Tryz.underlying9⟩
instance:Und Tryz.prog 27 (.slice 5):=⟨Tryz.underlying27⟩
instance:Und Tryz.prog 31 (.pointer 33):=⟨Tryz.underlying31⟩
instance:Und Tryz.prog 40 (.int .u64):=⟨Tryz.underlying40⟩
instance:Und Tryz.prog 47 (.int .u64):=⟨Tryz.underlying47⟩
instance:Und Tryz.prog 51 (.pointer 5):=⟨Tryz.underlying51⟩
instance:Und Tryz.prog 52 (.pointer 73):=⟨Tryz.underlying52⟩
instance:Und Tryz.prog 68 (.pointer 99):=⟨Tryz.underlying68⟩
instance:Und Tryz.prog 71 (.pointer 127):=⟨Tryz.underlying71⟩
instance:Und Tryz.prog 87 (.slice 9):=⟨Tryz.underlying87⟩
set_option linter.unusedVariables false
theorem zer60:zer Tryz.prog 60=some (List.replicate 256 (boo false)):=by kernel_rfl
theorem lay60:lay Tryz.prog 60=some (true,256):=by kernel_rfl
instance:Lay Tryz.prog 60 (true,256):=⟨lay60⟩
theorem lay5:lay Tryz.prog 5=some (false,1):=by kernel_rfl
instance:Lay Tryz.prog 5 (false,1):=⟨lay5⟩
theorem el27:Elem Tryz.prog 27 5 1:=zCm kr
theorem el87:Elem Tryz.prog 87 9 1:=zCm kr
theorem lay45:lay Tryz.prog 45=some (true,6):=by kernel_rfl
instance:Lay Tryz.prog 45 (true,6):=⟨lay45⟩
theorem zDI:fld Tryz.prog 45 1=some 1:=by kernel_rfl
instance:Fld Tryz.prog 45 1 1:=⟨zDI⟩
theorem lay3:lay Tryz.prog 3=some (false,1):=by kernel_rfl
instance:Lay Tryz.prog 3 (false,1):=⟨lay3⟩
theorem zDP:fld Tryz.prog 45 2=some 2:=by kernel_rfl
instance:Fld Tryz.prog 45 2 2:=⟨zDP⟩
theorem zDO:fld Tryz.prog 45 3=some 3:=by kernel_rfl
instance:Fld Tryz.prog 45 3 3:=⟨zDO⟩
theorem bp99:zBi Tryz.prog 99=some [(0,1),(1,1),(2,1),(3,1),(4,1),(5,1)]:=by kernel_rfl
theorem zer99:zer Tryz.prog 99=some [(int 0),(int 0),(int 0),(int 0),(.slice none 0 0),(.map none)]:=by kernel_rfl
theorem zC9:fld Tryz.prog 45 0=some 0:=by kernel_rfl
instance:Fld Tryz.prog 45 0 0:=⟨zC9⟩
theorem lay9:lay Tryz.prog 9=some (false,1):=by kernel_rfl
instance:Lay Tryz.prog 9 (false,1):=⟨lay9⟩
theorem zDJ:fld Tryz.prog 45 5=some 5:=by kernel_rfl
instance:Fld Tryz.prog 45 5 5:=⟨zDJ⟩
theorem lay4:lay Tryz.prog 4=some (false,1):=by kernel_rfl
instance:Lay Tryz.prog 4 (false,1):=⟨lay4⟩
theorem zDQ:fld Tryz.prog 45 4=some 4:=by kernel_rfl
instance:Fld Tryz.prog 45 4 4:=⟨zDQ⟩
theorem bp73:zBi Tryz.prog 73=some [(0,6),(6,1),(7,1),(8,1)]:=by kernel_rfl
theorem zer73:zer Tryz.prog 73=some [(str []),(int 0),(int 0),(int 0),(boo false),(boo false),(.pointer none),(int 0),(.pointer none)]:=by kernel_rfl
theorem zDD:fld Tryz.prog 73 1=some 6:=by kernel_rfl
instance:Fld Tryz.prog 73 1 6:=⟨zDD⟩
theorem lay68:lay Tryz.prog 68=some (false,1):=by kernel_rfl
instance:Lay Tryz.prog 68 (false,1):=⟨lay68⟩
theorem zDA:fld Tryz.prog 73 3=some 8:=by kernel_rfl
instance:Fld Tryz.prog 73 3 8:=⟨zDA⟩
theorem lay71:lay Tryz.prog 71=some (false,1):=by kernel_rfl
instance:Lay Tryz.prog 71 (false,1):=⟨lay71⟩
theorem bp78:zBi Tryz.prog 78=some [(0,1),(1,1)]:=by kernel_rfl
theorem zer78:zer Tryz.prog 78=some [(str []),(str [])]:=by kernel_rfl
theorem lay78:lay Tryz.prog 78=some (true,2):=by kernel_rfl
instance:Lay Tryz.prog 78 (true,2):=⟨lay78⟩
theorem zDK:fld Tryz.prog 73 2=some 7:=by kernel_rfl
instance:Fld Tryz.prog 73 2 7:=⟨zDK⟩
theorem lay2:lay Tryz.prog 2=some (false,1):=by kernel_rfl
instance:Lay Tryz.prog 2 (false,1):=⟨lay2⟩
theorem zDH:fld Tryz.prog 99 5=some 5:=by kernel_rfl
instance:Fld Tryz.prog 99 5 5:=⟨zDH⟩
theorem lay97:lay Tryz.prog 97=some (false,1):=by kernel_rfl
instance:Lay Tryz.prog 97 (false,1):=⟨lay97⟩
theorem zDB:fld Tryz.prog 99 4=some 4:=by kernel_rfl
instance:Fld Tryz.prog 99 4 4:=⟨zDB⟩
theorem lay87:lay Tryz.prog 87=some (false,1):=by kernel_rfl
instance:Lay Tryz.prog 87 (false,1):=⟨lay87⟩
theorem zDG:fld Tryz.prog 33 0=some 0:=by kernel_rfl
instance:Fld Tryz.prog 33 0 0:=⟨zDG⟩
theorem lay31:lay Tryz.prog 31=some (false,1):=by kernel_rfl
instance:Lay Tryz.prog 31 (false,1):=⟨lay31⟩
theorem lay33:lay Tryz.prog 33=some (true,2):=by kernel_rfl
instance:Lay Tryz.prog 33 (true,2):=⟨lay33⟩
theorem inf33:∃ i,Tryz.prog.info? 33=some i:=Option.isSome_iff_exists.1 kr
theorem ceo33:Tryz.prog.cellsOf 33=2:=by kernel_rfl
theorem zBK:fld Tryz.prog 33 1=some 1:=by kernel_rfl
instance:Fld Tryz.prog 33 1 1:=⟨zBK⟩
theorem lay27:lay Tryz.prog 27=some (false,1):=by kernel_rfl
instance:Lay Tryz.prog 27 (false,1):=⟨lay27⟩
theorem ceo5:Tryz.prog.cellsOf 5=1:=by kernel_rfl
theorem zer33:zer Tryz.prog 33=some [(.pointer none),(.slice none 0 0)]:=by kernel_rfl
theorem bp45:zBi Tryz.prog 45=some [(0,1),(1,1),(2,1),(3,1),(4,1),(5,1)]:=by kernel_rfl
theorem zer45:zer Tryz.prog 45=some [(str []),(int 0),(int 0),(int 0),(boo false),(boo false)]:=by kernel_rfl
structure Tryz.Gl (w:World):Prop where
 pow10:Lib.TabIs Tryz.prog w "internal/strconv.uint64pow10" .u64 Lib.pow10Tab
theorem Tryz.Gl.post {b w:World} {c H:Hp} (h:Tryz.Gl b) (p:Post b c w H):Tryz.Gl w :=
 ⟨zC3 (by kernel_rfl:Tryz.prog.globalNamed "internal/strconv.uint64pow10"=some 7) h.pow10 p⟩
theorem zBB {c:World} {d:Hp} (hw:Holds c d) (b:Str) {r:Unit} (h:strings_makeASCIISet b=some r) :
  Con Tryz.prog 25 [(str b)] c d (fun H' v=>v=(.tuple ⟨[(.agg (Lib.setCells b)),(boo true)]⟩)) :=
 zCx Tryz.func25 rfl kr hw h (Tryz.strings_makeASCIISet (fun w=>(Tryz.zeroValue60 w).trans kr))
theorem zBx {c:World} {b:Hp} (hw:Holds c b) (d:List Str) (f:Str) {vl:Value} (R:Sl b vl d) {r:Str} (h:strings_Join d f=some r) :
  Cs Tryz.prog 45 [vl,(str f)] c b r :=
 zDN Tryz.func45 rfl kr hw R h Tryz.strings_Join_none Tryz.strings_Join
theorem zAY {d:World} {c:Hp} (hw:Holds d c) (f:Str) (i:UInt8) {b:Nat} (hA:At c ⟨b,0,none⟩ (setc f)) {r:Bool} (h:zAG f i=some r) :
  Cb Tryz.prog 47 [(ptr b 0),(byt i)] d c r :=
 zC6 Tryz.func47 rfl kr hw hA h Tryz.asciiSet_contains
theorem zBP {b:World} {c:Hp} (hw:Holds b c) (d:Str) (f:Str) {r:Int} (h:zAc d f=some r) :
  Ci Tryz.prog 58 [(str d),(str f)] b c r :=
 zCy Tryz.func58 rfl kr hw h Tryz.stringslite_Index_one
theorem zBv {b:World} {c:Hp} (hw:Holds b c) (hG:Tryz.Gl b) (d:Int) {r:Str} (h:strconv_Itoa d=some r) :
  Cs Tryz.prog 75 [(int d)] b c r :=
 zDE Tryz.func75 rfl kr hw hG.pow10 h Tryz.strconv_Itoa
theorem zB3 {t:World} {d:Hp} (hw:Holds t d) (hG:Tryz.Gl t) (c:UInt8) {r:Bool} (h:zBn c=some r) :
  Cb Tryz.prog 57 [(byt c)] t d r:=by
 refine CM 42 Tryz.func57 hw fun S=>?_
 refine Ws<|Wg<|A<|We<|Ws<|Ws<|Wg<|M<|We<|B h fun j4 p h=>WP.cut (fun f w=>match j4 with | .inl _=>∃ (H1:Hp),f 0=(byt c)∧St t d w H1 [] | .inr _=>False) ?_ ?_
 ·refine Wb<|Ws<|Ws<|Wg<|Me c 33<|A<|We<|B p fun aq b p=>WP.cut (fun f w=>∃ (u:Hp),f 0=(byt c)∧f 4=(boo aq)∧St t d w u []) ?_ ?_
  ·rcases condE b with ⟨v,b⟩ | ⟨v,b⟩
   ·refine CT v<|Wk ?_
    obtain rfl:=oi b
    exact ⟨d,rfl,rfl,S⟩
   refine CF v<|Ws<|Wg<|Me c 35<|A<|We ?_
   rcases condE b with ⟨x,b⟩ | ⟨x,b⟩
   ·refine CT x<|Wk ?_
    obtain rfl:=oi b
    exact ⟨d,rfl,rfl,S⟩
   refine CF x<|Ws<|Wg<|Me c 36<|A<|We ?_
   rcases condE b with ⟨z,b⟩ | ⟨z,b⟩
   ·refine CT z<|Wk ?_
    obtain rfl:=oi b
    exact ⟨d,rfl,rfl,S⟩
   refine CF z<|Ws<|Wg<|Me c 37<|A<|We ?_
   rcases condE b with ⟨aa,b⟩ | ⟨aa,b⟩
   ·refine CT aa<|Wk ?_
    obtain rfl:=oi b
    exact ⟨d,rfl,rfl,S⟩
   refine CF aa<|Ws<|Wg<|Me c 38<|A<|We ?_
   rcases condE b with ⟨ab,b⟩ | ⟨ab,b⟩
   ·refine CT ab<|Wk ?_
    obtain rfl:=oi b
    exact ⟨d,rfl,rfl,S⟩
   refine CF ab<|Ws<|Wg<|Me c 39<|A<|We ?_
   rcases condE b with ⟨ac,b⟩ | ⟨ac,b⟩
   ·refine CT ac<|Wk ?_
    obtain rfl:=oi b
    exact ⟨d,rfl,rfl,S⟩
   refine CF ac<|Ws<|Wg<|Me c 42<|A<|We ?_
   rcases condE b with ⟨ad,b⟩ | ⟨ad,b⟩
   ·refine CT ad<|Wk ?_
    obtain rfl:=oi b
    exact ⟨d,rfl,rfl,S⟩
   refine CF ad<|Ws<|Wg<|Me c 43<|A<|We ?_
   rcases condE b with ⟨ae,b⟩ | ⟨ae,b⟩
   ·refine CT ae<|Wk ?_
    obtain rfl:=oi b
    exact ⟨d,rfl,rfl,S⟩
   refine CF ae<|Ws<|Wg<|Me c 45<|A<|We ?_
   rcases condE b with ⟨af,b⟩ | ⟨af,b⟩
   ·refine CT af<|Wk ?_
    obtain rfl:=oi b
    exact ⟨d,rfl,rfl,S⟩
   refine CF af<|Ws<|Wg<|Me c 46<|A<|We ?_
   rcases condE b with ⟨ah,b⟩ | ⟨ah,b⟩
   ·refine CT ah<|Wk ?_
    obtain rfl:=oi b
    exact ⟨d,rfl,rfl,S⟩
   refine CF ah<|Ws<|Wg<|Me c 94<|A<|We ?_
   rcases condE b with ⟨ai,b⟩ | ⟨ai,b⟩
   ·refine CT ai<|Wk ?_
    obtain rfl:=oi b
    exact ⟨d,rfl,rfl,S⟩
   refine CF ai<|Ws<|Wg<|Me c 95<|A<|We ?_
   rcases condE b with ⟨aj,b⟩ | ⟨aj,b⟩
   ·refine CT aj<|Wk ?_
    obtain rfl:=oi b
    exact ⟨d,rfl,rfl,S⟩
   refine CF aj<|Ws<|Wg<|Me c 96<|A<|We ?_
   rcases condE b with ⟨ak,b⟩ | ⟨ak,b⟩
   ·refine CT ak<|Wk ?_
    obtain rfl:=oi b
    exact ⟨d,rfl,rfl,S⟩
   refine CF ak<|Ws<|Wg<|Me c 124<|A<|We ?_
   rcases condE b with ⟨al,b⟩ | ⟨al,b⟩
   ·refine CT al<|Wk ?_
    obtain rfl:=oi b
    exact ⟨d,rfl,rfl,S⟩
   refine CF al<|Wg<|Me c 126<|A<|We ?_
   obtain rfl:=oi b
   exact ⟨d,rfl,rfl,S⟩
  rintro f w ⟨u,h6,h8,S⟩
  rcases condE p with ⟨am,p⟩ | ⟨am,p⟩
  ·refine WP.condT h8 am<|Ws<|Wg<|A<|We ?_
   obtain rfl:=oi p
   exact WP.ret (Rb h S)
  refine WP.condF h8 am<|Wk ?_
  obtain rfl:=oi p
  exact ⟨u,h6,S⟩
 intro f w hM
 rcases j4 with _ | e
 ·obtain ⟨H1,q,S⟩:=hM
  refine Ws<|Wg<|M' q<|Md c 48<|M ?_
  refine WL.grp 3 [23,24] 25 (boo ((decide (48≤c))&&(decide (c≤57)))) ?_ ?_
  ·rcases boolE (decide (48≤c)) with k | k
   ·refine Gy k<|M' q<|Gy k<|Mb c 57<|Pt k ?_
    exact We ⟨(andT k),ag,rfl⟩
   refine Gn k<|Gn k<|Pf k ?_
   exact We ⟨(andF k),ag,rfl⟩
  intro us
  refine M ?_
  refine WL.grp 7 [27,28,29,30,31,32] 33 (boo (((decide (48≤c))&&(decide (c≤57)))||((decide (65≤c))&&(decide (c≤90))))) ?_ ?_
  ·rcases boolE ((decide (48≤c))&&(decide (c≤57))) with i | i
   ·refine Gn i<|Gn i<|Gn i<|WL.gund rfl rfl<|WL.gund rfl rfl<|Gn i<|Pt i ?_
    exact We ⟨(orT i),ag,rfl⟩
   refine Gy i<|M' q<|Gy i<|Md c 65<|Gy i<|M ?_
   refine WL.grp 3 [30,31] 32 (boo ((decide (65≤c))&&(decide (c≤90)))) ?_ ?_
   ·rcases boolE (decide (65≤c)) with l | l
    ·refine Gy l<|M' q<|Gy l<|Mb c 90<|Gy i<|Pt l ?_
     exact We ⟨(andT l),ag,rfl⟩
    refine Gn l<|Gn l<|Gy i<|Pf l ?_
    exact We ⟨(andF l),ag,rfl⟩
   intro us
   refine Pf i ?_
   exact We ⟨(orF i),ag,rfl⟩
  intro us
  refine M ?_
  refine WL.grp 7 [35,36,37,38,39,40] 41 (boo ((((decide (48≤c))&&(decide (c≤57)))||((decide (65≤c))&&(decide (c≤90))))||((decide (97≤c))&&(decide (c≤122))))) ?_ ?_
  ·rcases boolE (((decide (48≤c))&&(decide (c≤57)))||((decide (65≤c))&&(decide (c≤90)))) with j | j
   ·refine Gn j<|Gn j<|Gn j<|WL.gund rfl rfl<|WL.gund rfl rfl<|Gn j<|Pt j ?_
    exact We ⟨(orT j),ag,rfl⟩
   refine Gy j<|M' q<|Gy j<|Md c 97<|Gy j<|M ?_
   refine WL.grp 3 [38,39] 40 (boo ((decide (97≤c))&&(decide (c≤122)))) ?_ ?_
   ·rcases boolE (decide (97≤c)) with o | o
    ·refine Gy o<|M' q<|Gy o<|Mb c 122<|Gy j<|Pt o ?_
     exact We ⟨(andT o),ag,rfl⟩
    refine Gn o<|Gn o<|Gy j<|Pf o ?_
    exact We ⟨(andF o),ag,rfl⟩
   intro us
   refine Pf j ?_
   exact We ⟨(orF j),ag,rfl⟩
  intro us
  refine A<|We ?_
  exact WP.ret (Rb h S)
 exact hM.elim
theorem zBr {d:World} {i:Hp} (hw:Holds d i) (hG:Tryz.Gl d) (c:Str) {r:Bool} (h:zBc c=some r) :
  Cb Tryz.prog 34 [(str c)] d i r:=by
 refine CM 17 Tryz.func34 hw fun S=>?_
 refine Ws<|Wg<|A<|We<|Ws<|Ws<|Wg<|M<|Ns<|M<|We<|B h fun j z h=>WP.cut (fun f w=>match j with | .inl _=>∃ (t:Hp),f 0=(str c)∧St d i w t [] | .inr _=>False) ?_ ?_
 ·refine Wb ?_
  refine WP.loopM (zBG c) (fun s f w=>match s with | u=>∃ (k:Hp),f 0=(str c)∧f 5=(int (c.length:Int))∧f 6=(int u)∧St d i w k []) 0 j (lfW z) ?_ ?_
  ·exact ⟨i,rfl,rfl,rfl,S⟩
  intro u f w hI y8 b v
  obtain ⟨k,l,x,o,S⟩:=hI
  refine Ws<|Wg<|La' o x<|We<|Ws ?_
  rcases condE b with ⟨p,b⟩ | ⟨p,b⟩
  ·refine CT p<|Wk<|Ws<|Wb<|Ws<|Wg<|M' o<|A<|We<|Ws<|Wg<|M' l ?_
   refine M<|B b fun aa ab b=>Ja ab<|B b fun ah ac b=>W.call S rfl (zB3 S.holds (hG.post S.post) aa ac) ?_
   rintro ai aj ad ak S rfl
   refine No<|We ?_
   rcases condE b with ⟨q,b⟩ | ⟨q,b⟩
   ·refine CT q<|Ws<|Wg<|A<|We ?_
    obtain rfl:=oi b
    obtain rfl:=v
    exact WP.ret (Rb h S)
   refine CF q<|Wk<|Wg<|Lg' o rfl<|M<|We ?_
   obtain rfl:=oi b
   exact ⟨rfl,⟨ad,l,x,rfl,S⟩⟩
  refine CF p<|Wx ?_
  obtain rfl:=oi b
  obtain rfl:=v
  exact ⟨k,l,S⟩
 intro f w hM
 rcases j with _ | e
 ·obtain ⟨t,h7,S⟩:=hM
  refine Ws<|Wg<|M' h7<|Nb<|A<|We ?_
  exact WP.ret (Rb h S)
 exact hM.elim
theorem zBO {b:World} {i:Hp} (hw:Holds b i) (hG:Tryz.Gl b) (c:Str) (d:Str) {r:(Str×Str×Bool)} (h:zA9 c d=some r) :
  Con Tryz.prog 35 [(str c),(str d)] b i (fun H' v=>v=(.tuple ⟨[(str r.1),(str r.2.1),(boo r.2.2)]⟩)):=by
 refine CM 23 Tryz.func35 hw fun S=>?_
 refine Ws<|Wg<|A<|A<|A<|We<|Ws<|Ws<|Wg<|M<|M<|B h fun o j h=>W.call S rfl (zBP S.holds c d j) ?_
 rintro p q t u S rfl
 refine A<|We<|Ws<|Wg<|M<|Ld<|We ?_
 rcases condE h with ⟨f,h⟩ | ⟨f,h⟩
 ·refine CT f<|Ws<|WP.quiet S kr kr<|QM<|QM<|B h fun x k h=>QJd k<|QM<|QM<|QM<|QNs<|QLg<|B h fun z l h=>QJc l<|QA<|QA<|QA<|WQ.nil ?_
  intro w7 H8 ac S
  obtain rfl:=oi h
  refine WP.ret (Out.three rfl S rfl rfl rfl ?_)
  exact rfl
 refine CF f<|Wk<|Ws<|Wg<|M<|A<|A<|A<|We ?_
 obtain rfl:=oi h
 refine WP.ret (Out.three rfl S rfl rfl rfl ?_)
 exact rfl
theorem zBH {b:World} {f:Hp} (hw:Holds b f) (hG:Tryz.Gl b) (c:Str) (d:Str) {r:(Str×Str×Bool)} (h:zBF c d=some r) :
  Con Tryz.prog 21 [(str c),(str d)] b f (fun H' v=>v=(.tuple ⟨[(str r.1),(str r.2.1),(boo r.2.2)]⟩)):=by
 refine CM 13 Tryz.func21 hw fun S=>?_
 refine Ws<|Wg<|A<|A<|A<|We<|Ws<|Wg<|M<|M<|B h fun j i h=>W.call S rfl (zBO S.holds (hG.post S.post) c d i) ?_
 rintro k l o p S rfl
 refine Ex ?_
 refine Ex ?_
 refine Ex<|A<|A<|A<|We ?_
 obtain rfl:=oi h
 refine WP.ret (Out.three rfl S rfl rfl rfl ?_)
 exact rfl
theorem zA2 {j:World} {k:Hp} (hw:Holds j k) (hG:Tryz.Gl j) (p:Str) (l:UInt8) {r:Str} (h:zAo p l=some r) :
  Cs Tryz.prog 24 [(str p),(byt l)] j k r:=by
 refine CM 23 Tryz.func24 hw fun S=>?_
 refine Ws<|Wg<|A<|We<|Ws<|B h fun u z h=>WP.cut (fun f w=>∃ (v:Hp),f 0=(str u)∧St j k w v []) ?_ ?_
 ·refine Wb ?_
  refine WP.loopM (zAd l) (fun s f w=>match s with | q=>∃ (o:Hp),f 0=(str q)∧f 1=(byt l)∧St j k w o []) p u (lfW z) ?_ ?_
  ·exact ⟨k,rfl,rfl,S⟩
  intro q f w hI y8 c aa
  obtain ⟨o,i,x,S⟩:=hI
  refine Ws<|Ws<|Wg<|M' i<|Ns<|Lc<|M<|B c fun ab d c=>WL.grp 8 [9,10,11,12,13,14,15] 16 (boo ab) ?_ ?_
  ·rcases boolE (decide (0<(q.length:Int))) with b | b
   ·replace d:=condT d b
    refine Gy b<|M' i<|Gy b<|M' i<|Gy b<|Ns<|Gy b<|Lh<|Gy b<|B d fun ac ad d=>Ja ad<|Gy b<|M' x<|Gy b<|Me ac l<|Pt b ?_
    exact We ⟨(ob d),ag,rfl⟩
   replace d:=condF d b
   refine Gn b<|Gn b<|Gn b<|Gn b<|Gn b<|Gn b<|Gn b<|Pf b ?_
   exact We ⟨(ob d),ag,rfl⟩
  intro us
  refine We ?_
  rcases condE c with ⟨t,c⟩ | ⟨t,c⟩
  ·refine CT t<|Wk<|Wb<|Wg<|M' i<|M' i<|Ns<|Lh<|B c fun ai ae c=>Jd ae<|A<|We ?_
   obtain rfl:=oi c
   exact ⟨rfl,⟨o,rfl,x,S⟩⟩
  refine CF t<|Wx ?_
  obtain rfl:=oi c
  obtain rfl:=aa
  exact ⟨o,i,S⟩
 rintro f w ⟨v,h7,S⟩
 refine Ws<|Wg<|M' h7<|A<|We ?_
 exact WP.ret (Rs h S)
theorem zA6 {i:World} {j:Hp} (hw:Holds i j) (hG:Tryz.Gl i) (p:Str) (k:UInt8) {r:Str} (h:zAq p k=some r) :
  Cs Tryz.prog 23 [(str p),(byt k)] i j r:=by
 refine CM 17 Tryz.func23 hw fun S=>?_
 refine Ws<|Wg<|A<|We<|Ws<|B h fun u z h=>WP.cut (fun f w=>∃ (v:Hp),f 0=(str u)∧St i j w v []) ?_ ?_
 ·refine Wb ?_
  refine WP.loopM (zAf k) (fun s f w=>match s with | q=>∃ (l:Hp),f 0=(str q)∧f 1=(byt k)∧St i j w l []) p u (lfW z) ?_ ?_
  ·exact ⟨j,rfl,rfl,S⟩
  intro q f w hI y8 c aa
  obtain ⟨l,o,x,S⟩:=hI
  refine Ws<|Ws<|Wg<|M' o<|Ns<|Lc<|M<|B c fun ab d c=>WL.grp 5 [9,10,11,12] 13 (boo ab) ?_ ?_
  ·rcases boolE (decide (0<(q.length:Int))) with b | b
   ·replace d:=condT d b
    refine Gy b<|M' o<|Gy b<|B d fun ac ad d=>Ja ad<|Gy b<|M' x<|Gy b<|Me ac k<|Pt b ?_
    exact We ⟨(ob d),ag,rfl⟩
   replace d:=condF d b
   refine Gn b<|Gn b<|Gn b<|Gn b<|Pf b ?_
   exact We ⟨(ob d),ag,rfl⟩
  intro us
  refine We ?_
  rcases condE c with ⟨t,c⟩ | ⟨t,c⟩
  ·refine CT t<|Wk<|Wb<|Wg<|M' o<|B c fun ai ae c=>Jc ae<|A<|We ?_
   obtain rfl:=oi c
   exact ⟨rfl,⟨l,rfl,x,S⟩⟩
  refine CF t<|Wx ?_
  obtain rfl:=oi c
  obtain rfl:=aa
  exact ⟨l,o,S⟩
 rintro f w ⟨v,h7,S⟩
 refine Ws<|Wg<|M' h7<|A<|We ?_
 exact WP.ret (Rs h S)
theorem zAz {j:World} {d:Hp} (hw:Holds j d) (hG:Tryz.Gl j) (o:Str) (k:Str) {bp_as:Nat} (i:At d ⟨bp_as,0,none⟩ (setc k)) {r:Str} (h:zAS o k=some r) :
  Cs Tryz.prog 27 [(str o),(ptr bp_as 0)] j d r:=by
 refine CM 22 Tryz.func27 hw fun S=>?_
 refine Ws<|Wg<|A<|We<|Ws<|B h fun t ab h=>WP.cut (fun f w=>∃ (u:Hp),f 0=(str t)∧St j d w u []) ?_ ?_
 ·refine Wb ?_
  refine WP.loopM (zAH k) (fun s f w=>match s with | v=>∃ (l:Hp),f 0=(str v)∧f 1=(ptr bp_as 0)∧At l ⟨bp_as,0,none⟩ (setc k)∧St j d w l []) o t (lfW ab) ?_ ?_
  ·exact ⟨d,rfl,rfl,i,S⟩
  intro v f w hI y8 b x
  obtain ⟨l,c,z,i,S⟩:=hI
  refine Ws<|Ws<|Wg<|M' c<|Ns<|Lc<|We ?_
  rcases condE b with ⟨p,b⟩ | ⟨p,b⟩
  ·refine CT p<|Wk<|Wb<|Ws<|Ws<|Wg<|M' z<|M' c<|M' c<|Ns<|Lh<|B b fun ac ad b=>Ja ad<|B b fun ak ae b=>W.call S rfl (zAY S.holds k ac i ae) ?_
   rintro al am aa af S rfl
   have i:=At.mono i af (by intro h; have:=congrArg List.length h; rw [zBN] at this; cases this)
   refine No<|We ?_
   rcases condE b with ⟨q,b⟩ | ⟨q,b⟩
   ·refine CT q<|Wx ?_
    obtain rfl:=oi b
    obtain rfl:=x
    exact ⟨aa,c,S⟩
   refine CF q<|Wk<|Wg<|M' c<|M' c<|Ns<|Lh<|B b fun an ah b=>Jd ah<|A<|We ?_
   obtain rfl:=oi b
   exact ⟨rfl,⟨aa,rfl,z,i,S⟩⟩
  refine CF p<|Wx ?_
  obtain rfl:=oi b
  obtain rfl:=x
  exact ⟨l,c,S⟩
 rintro f w ⟨u,h7,S⟩
 refine Ws<|Wg<|M' h7<|A<|We ?_
 exact WP.ret (Rs h S)
theorem zA1 {i:World} {c:Hp} (hw:Holds i c) (hG:Tryz.Gl i) (o:Str) (j:Str) {bp_as:Nat} (d:At c ⟨bp_as,0,none⟩ (setc j)) {r:Str} (h:zAJ o j=some r) :
  Cs Tryz.prog 26 [(str o),(ptr bp_as 0)] i c r:=by
 refine CM 16 Tryz.func26 hw fun S=>?_
 refine Ws<|Wg<|A<|We<|Ws<|B h fun t ab h=>WP.cut (fun f w=>∃ (u:Hp),f 0=(str t)∧St i c w u []) ?_ ?_
 ·refine Wb ?_
  refine WP.loopM (zAF j) (fun s f w=>match s with | v=>∃ (l:Hp),f 0=(str v)∧f 1=(ptr bp_as 0)∧At l ⟨bp_as,0,none⟩ (setc j)∧St i c w l []) o t (lfW ab) ?_ ?_
  ·exact ⟨c,rfl,rfl,d,S⟩
  intro v f w hI y8 b x
  obtain ⟨l,k,z,d,S⟩:=hI
  refine Ws<|Ws<|Wg<|M' k<|Ns<|Lc<|We ?_
  rcases condE b with ⟨p,b⟩ | ⟨p,b⟩
  ·refine CT p<|Wk<|Wb<|Ws<|Ws<|Wg<|M' z<|M' k<|B b fun ac ad b=>Ja ad<|B b fun ak ae b=>W.call S rfl (zAY S.holds j ac d ae) ?_
   rintro al am aa af S rfl
   have d:=At.mono d af (by intro h; have:=congrArg List.length h; rw [zBN] at this; cases this)
   refine No<|We ?_
   rcases condE b with ⟨q,b⟩ | ⟨q,b⟩
   ·refine CT q<|Wx ?_
    obtain rfl:=oi b
    obtain rfl:=x
    exact ⟨aa,k,S⟩
   refine CF q<|Wk<|Wg<|M' k<|B b fun an ah b=>Jc ah<|A<|We ?_
   obtain rfl:=oi b
   exact ⟨rfl,⟨aa,rfl,z,d,S⟩⟩
  refine CF p<|Wx ?_
  obtain rfl:=oi b
  obtain rfl:=x
  exact ⟨l,k,S⟩
 rintro f w ⟨u,h7,S⟩
 refine Ws<|Wg<|M' h7<|A<|We ?_
 exact WP.ret (Rs h S)
theorem zBk {l:World} {p:Hp} (hw:Holds l p) (hG:Tryz.Gl l) (k:Str) (c:Str) {r:Str} (h:zAu k c=some r) :
  Cs Tryz.prog 16 [(str k),(str c)] l p r:=by
 refine CM 43 Tryz.func16 hw fun S=>?_
 refine Ws<|Wg<|A<|We<|Ws<|Ws<|Wg<|M<|Na<|M ?_
 refine WL.grp 3 [10,11] 12 (boo ((k==[])||(c==[]))) ?_ ?_
 ·rcases boolE (k==[]) with f | f
  ·refine Gn f<|Gn f<|Pt f ?_
   exact We ⟨(orT f),ag,rfl⟩
  refine Gy f<|M<|Gy f<|Na<|Pf f ?_
  exact We ⟨(orF f),ag,rfl⟩
 intro us
 refine We ?_
 rcases condE h with ⟨q,h⟩ | ⟨q,h⟩
 ·refine CT q<|Ws<|Wg<|M<|A<|We ?_
  exact WP.ret (Rs h S)
 refine CF q<|Wk<|Ws<|Ws<|Wg<|M<|Ns<|Le<|M<|B h fun z j h=>WL.grp 4 [18,19,20] 21 (boo z) ?_ ?_
 ·rcases boolE ((c.length:Int)==1) with d | d
  ·replace j:=condT j d
   refine Gy d<|M<|Gy d<|B j fun c6 ab j=>Ja ab<|Gy d<|Ma c6 128<|Pt d ?_
   exact We ⟨(ob j),ag,rfl⟩
  replace j:=condF j d
  refine Gn d<|Gn d<|Gn d<|Pf d ?_
  exact We ⟨(ob j),ag,rfl⟩
 intro us
 refine We ?_
 rcases condE h with ⟨t,h⟩ | ⟨t,h⟩
 ·refine CT t<|Ws<|WP.quiet S kr kr<|QM<|QM<|B h fun ac ad h=>QJa ad<|B h fun u ae h=>WQ.call (v:=str u) rfl (fun w H' hq S=>zA2 S.holds (hG.post S.post) k ac ae)<|QM<|B h fun af ah h=>QJa ah<|B h fun ai aj h=>WQ.call (v:=str ai) rfl (fun w H' hq S=>zA6 S.holds (hG.post S.post) u af aj)<|QA<|WQ.nil ?_
  intro w9 au av S
  exact WP.ret (Rs h S)
 refine CF t<|Wk<|Ws<|Ws<|Wg<|M<|B h fun aw ak h=>W.call S rfl (zBB S.holds c ak) ?_
 rintro ax ay az a0 S rfl
 refine M ?_
 refine Ex ?_
 refine Ex ?_
 refine W.alloc (List.replicate 256 (boo false)) S zer60 ?_
 intro al a1 S
 refine W.store (i:=0) (setc c) S rfl rfl rfl lay60 (show (Lib.setCells c).size=256 by have:=zBN c; simpa [setc] using this) (zC7 c) (Nat.le_of_eq (by rw [List.length_replicate])) (zCg ((zBN c).trans (by rw [List.length_replicate]))) ?_
 intro a2 S
 obtain ⟨x,a3,am,_,S⟩:=S.settle (i:=0) rfl
 replace S:St l p _ x []:=S
 have o:At x ⟨al,0,none⟩ (setc c):=⟨_,_,rfl,am,[],by simp⟩
 refine A<|We<|Ws<|Wg<|M<|We<|WP.condT (b:=true) rfl rfl<|Ws<|Wg<|M<|B h fun an ao h=>W.call S rfl (zAz S.holds (hG.post S.post) k c o ao) ?_
 rintro a4 a5 a6 ap S rfl
 have o:=At.mono o ap (by intro h; have:=congrArg List.length h; rw [zBN] at this; cases this)
 refine B h fun a7 aq h=>W.call S rfl (zA1 S.holds (hG.post S.post) an c o aq) ?_
 rintro a8 a9 ba bb S rfl
 refine A<|We ?_
 exact WP.ret (Rs h S)
theorem zAn {c:World} {f:Hp} (hw:Holds c f) (hG:Tryz.Gl c) (d:UInt8) {r:UInt8} (h:zAb d=some r) :
  Cc Tryz.prog 51 [(byt d)] c f r:=by
 refine CM 5 Tryz.func51 hw fun S=>?_
 refine Ws<|Wg<|A<|We<|Ws<|Wg<|M ?_
 refine WL.w (R.or8 (a:=d) (b:=32) rfl rfl)<|A<|We ?_
 exact WP.ret (Rc h S)
end Go.Proofs
