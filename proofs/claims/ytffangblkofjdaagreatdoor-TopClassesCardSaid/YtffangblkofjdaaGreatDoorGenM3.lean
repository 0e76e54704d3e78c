/- A part. -/
import Derived.Test.YtffangblkofjdaaGreatDoorEng38
import Derived.Test.YtffangblkofjdaaGreatDoorEng35
import Derived.Test.YtffangblkofjdaaGreatDoorGenM2
namespace Go.Proofs
set_option maxHeartbeats 4000000
set_option maxRecDepth 10000
open Go Go.Eng Go.VI Go.Eng.Pure
set_option linter.unusedVariables false
set_option maxRecDepth 10000
set_option maxHeartbeats 4000000
theorem zHG {b : World} {f : Hp} (hw : Holds b f) (hG : Tryz.Gl b) (c : Str) (d : Str) {r : Bool} (h : zAz c d = some r) :
    Cb Tryz.prog 97 [(str c),(str d)] b f r:=by
  refine (c97 (xs:=(c,d)) (y:=r) hw (fun _ _ e=>by cases e) hG ⟨_,_,rfl,rfl,⟨_,rfl,rfl⟩⟩ h).mono ?_
  rintro _ v ⟨_,rfl,D⟩
  obtain ⟨i,rfl,j⟩:=D
  obtain rfl:i=_:=j
  exact rfl
theorem c272:FE.ok (U:=UU) Tryz.prog ⟨272,[(.st 41)],[.str],fun x=>zEt x⟩:=mk anil (.e) Tryz.func272
theorem c269:FE.ok (U:=UU) Tryz.prog ⟨269,[(.st 41)],[.boo],fun x=>zEK x⟩:=mk (fcons c272 (fcons c200 (fcons c174 (fcons c24 anil)))) (.e) Tryz.func269
theorem c208:FE.ok (U:=UU) Tryz.prog ⟨208,[(.st 41)],[.str],fun x=>zDp x⟩:=mk (fcons c272 (fcons c269 anil)) (.e) Tryz.func208
theorem zGr {c : World} {d : Hp} (hw : Holds c d) (hG : Tryz.Gl c) (b : GField) {r : Str} (h : zDp b = some r) :
    Cs Tryz.prog 208 [(agg [(str b.fName),(str b.fValue)])] c d r:=by
  refine (c208 (xs:=(b)) (y:=r) hw (fun _ _ e=>by cases e) hG ⟨_,rfl,⟨_,rfl,rfl⟩⟩ h).mono ?_
  rintro _ v ⟨_,rfl,D⟩
  obtain ⟨f,rfl,i⟩:=D
  obtain rfl:f=_:=i
  exact rfl
end Go.Proofs
namespace Go.Proofs
open Go.Eng Go.Eng.Pure
set_option linter.unusedVariables false
theorem zBh {d ws : World} {f Hs : Hp} {i : List Ent} (hG : Tryz.Gl d) (s0_buf : (List UInt8)) {b : Value} {va0 : Value} {c : Nat} (S : St d f ws Hs (.box c 69 [va0, b] :: .row b 5 1 s0_buf.length :: i)) (R0_1 : Sl Hs b s0_buf) (j : va0 = Value.pointer none ∨ va0 = ptr c 0) {r : Int} (h : zBF s0_buf = some r) :
    ConS Tryz.prog 205 [(ptr c 0)] d f ws Hs i (fun H' v L'=>L'=[.box c 69 [va0,b],.row b 5 1 s0_buf.length]∧v=(int r)):=by
  refine ConS.mk (N:=8) Tryz.func205 rfl rfl kr rfl<|Ws<|Wg<|A<|We<|Ws<|Wg<|M<|Nn<|Fb ?_
  refine Lo 0 S<|Nq R0_1 ?_
  refine A<|We ?_
  obtain rfl:=oi h
  refine WP.ret (OutS.one (L':=[.box c 69 [va0,b],.row b 5 1 s0_buf.length]) rfl lr S rfl ?_)
  exact ⟨rfl,rfl⟩
theorem zIj {b : World} {c : Hp} (hw : Holds b c) (hG : Tryz.Gl b) (d : Int) {r : Str} (h : strconv_Itoa d = some r) :
    Cs Tryz.prog 194 [(int d)] b c r :=
  zRh Tryz.func194 rfl kr hw hG.pow10 h Tryz.strconv_Itoa
end Go.Proofs
namespace Go.Proofs
open Go Go.Eng Go.VI Go.Eng.Pure
set_option linter.unusedVariables false
set_option maxRecDepth 10000
set_option maxHeartbeats 4000000
theorem c194:FE.ok (U:=UU) Tryz.prog ⟨194,[.int],[.str],fun x=>strconv_Itoa x⟩:=@fun w H az x y hw hg b hT h=>by
 obtain ⟨c,rfl,d⟩:=hT
 obtain rfl:c=_:=d
 exact (zIj hw b x h).mono (fun _ _ e=>⟨[_],e,_,rfl,rfl⟩)
theorem c124:FE.ok (U:=UU) Tryz.prog ⟨124,[.int],[.str],fun x=>zD4 x⟩:=mk (fcons c194 anil) (.e) Tryz.func124
theorem zIS {b : World} {d : Hp} (hw : Holds b d) (hG : Tryz.Gl b) (c : Int) {r : Str} (h : zD4 c = some r) :
    Cs Tryz.prog 124 [(int c)] b d r:=by
  refine (c124 (xs:=(c)) (y:=r) hw (fun _ _ e=>by cases e) hG ⟨_,rfl,rfl⟩ h).mono ?_
  rintro _ v ⟨_,rfl,D⟩
  obtain ⟨f,rfl,i⟩:=D
  obtain rfl:f=_:=i
  exact rfl
end Go.Proofs
namespace Go.Proofs
open Go.Eng Go.Eng.Pure
set_option linter.unusedVariables false
theorem ceo5:Tryz.prog.cellsOf 5=1:=by kernel_rfl
theorem zAq {o ws : World} {p Hs : Hp} {t : List Ent} (hG : Tryz.Gl o) (s0_buf : (List UInt8)) {b : Value} {va0 : Value} {d : Nat} (S : St o p ws Hs (.box d 69 [va0, b] :: .row b 5 1 s0_buf.length :: t)) (R0_1 : Sl Hs b s0_buf) (u : va0 = Value.pointer none ∨ va0 = ptr d 0) {r : Str} (h : zAa s0_buf = some r) :
    ConS Tryz.prog 30 [(ptr d 0)] o p ws Hs t (fun H' v L'=>L'=[.box d 69 [va0,b]]∧v=(str r)):=by
  refine ConS.mk (N:=14) Tryz.func30 rfl rfl kr rfl<|Ws<|Wg<|A<|We<|Ws<|WP.draw kr 12 rfl (bm 12 0) rfl ?_
  have S:=S.drew
  refine At_ 0 12 1 rfl (fun _=>(R.mv (v:=ptr d 0) rfl)) ?_
  refine At_ 5 12 33 rfl (fun _=>(R.mv (v:=ptr d 0) rfl)) ?_
  refine WA.two (i:=1) (j:=6) (bm 12 35) (bm 12 97) rfl rfl kr rfl rfl ?_ ?_
  · refine WL.w (R.nilCheckB rfl)<|WL.e<|At_ 2 12 39 rfl (fun _=>(R.fieldB rfl zFz)) ?_
    refine WA.two (i:=3) (j:=6) (bm 12 47) (bm 12 103) rfl rfl kr rfl rfl ?_ ?_
    · refine WL.w (R.loadB (i:=0) (v:=b) S rfl rfl lay67 rfl)<|WL.e ?_
      refine WA.two (i:=4) (j:=6) (bm 12 63) (bm 12 111) rfl rfl kr rfl rfl ?_ ?_
      · refine W.sliceData (i:=1) S rfl rfl Tryz.underlying116 ?_
        intro f k c S
        refine We<|WA.one (i:=6) (bm 12 127) rfl kr rfl<|Nn<|We ?_
        refine At_ 7 12 255 rfl (fun _=>(R.fieldB rfl zFz))<|WA.one (i:=8) (bm 12 511) rfl kr rfl ?_
        refine Lo 0 S<|We ?_
        refine At_ 9 12 1023 rfl (fun _=>(R.lenL (α:=UInt8) (xs:=s0_buf) (H:=Hs) R0_1 rfl Tryz.underlying67))<|WA.one (i:=10) (bm 12 2047) rfl kr rfl ?_
        refine W.strOf (i:=1) S rfl R0_1 c rfl rfl Tryz.underlying116 ceo5 ?_
        intro l S
        refine We ?_
        refine At_ 11 12 4095 rfl (fun _=>(R.as (v:=str s0_buf) rfl))<|WA.done kr ?_
        obtain rfl:=oi h
        refine WP.ret (OutS.one (L':=[.box d 69 [va0,b]]) rfl lr S rfl ?_)
        exact ⟨rfl,rfl⟩
       refine WL.w (R.nilCheckB rfl)<|WL.e<|At_ 7 12 239 rfl (fun _=>(R.fieldB rfl zFz)) ?_
       refine WA.two (i:=4) (j:=8) (bm 12 255) (bm 12 495) rfl rfl kr rfl rfl ?_ ?_
       · refine W.sliceData (i:=1) S rfl rfl Tryz.underlying116 ?_
         intro f k c S
         refine We<|WA.one (i:=8) (bm 12 511) rfl kr rfl ?_
         refine Lo 0 S<|We ?_
         refine At_ 9 12 1023 rfl (fun _=>(R.lenL (α:=UInt8) (xs:=s0_buf) (H:=Hs) R0_1 rfl Tryz.underlying67))<|WA.one (i:=10) (bm 12 2047) rfl kr rfl ?_
         refine W.strOf (i:=1) S rfl R0_1 c rfl rfl Tryz.underlying116 ceo5 ?_
         intro l S
         refine We ?_
         refine At_ 11 12 4095 rfl (fun _=>(R.as (v:=str s0_buf) rfl))<|WA.done kr ?_
         obtain rfl:=oi h
         refine WP.ret (OutS.one (L':=[.box d 69 [va0,b]]) rfl lr S rfl ?_)
         exact ⟨rfl,rfl⟩
        refine WL.w (R.loadB (i:=0) (v:=b) S rfl rfl lay67 rfl)<|WL.e<|At_ 9 12 1007 rfl (fun _=>(R.lenL (α:=UInt8) (xs:=s0_buf) (H:=Hs) R0_1 rfl Tryz.underlying67))<|WA.one (i:=4) (bm 12 1023) rfl kr rfl<|W.sliceData (i:=1) S rfl rfl Tryz.underlying116 ?_
        intro f k c S
        refine We<|WA.one (i:=10) (bm 12 2047) rfl kr rfl ?_
        refine W.strOf (i:=1) S rfl R0_1 c rfl rfl Tryz.underlying116 ceo5 ?_
        intro l S
        refine We ?_
        refine At_ 11 12 4095 rfl (fun _=>(R.as (v:=str s0_buf) rfl))<|WA.done kr ?_
        obtain rfl:=oi h
        refine WP.ret (OutS.one (L':=[.box d 69 [va0,b]]) rfl lr S rfl ?_)
        exact ⟨rfl,rfl⟩
     refine WL.w (R.nilCheckB rfl)<|WL.e<|At_ 7 12 231 rfl (fun _=>(R.fieldB rfl zFz)) ?_
     refine WA.two (i:=3) (j:=8) (bm 12 239) (bm 12 487) rfl rfl kr rfl rfl ?_ ?_
     · refine WL.w (R.loadB (i:=0) (v:=b) S rfl rfl lay67 rfl)<|WL.e ?_
       refine WA.two (i:=4) (j:=8) (bm 12 255) (bm 12 495) rfl rfl kr rfl rfl ?_ ?_
       · refine W.sliceData (i:=1) S rfl rfl Tryz.underlying116 ?_
         intro f k c S
         refine We<|WA.one (i:=8) (bm 12 511) rfl kr rfl ?_
         refine Lo 0 S<|We ?_
         refine At_ 9 12 1023 rfl (fun _=>(R.lenL (α:=UInt8) (xs:=s0_buf) (H:=Hs) R0_1 rfl Tryz.underlying67))<|WA.one (i:=10) (bm 12 2047) rfl kr rfl ?_
         refine W.strOf (i:=1) S rfl R0_1 c rfl rfl Tryz.underlying116 ceo5 ?_
         intro l S
         refine We ?_
         refine At_ 11 12 4095 rfl (fun _=>(R.as (v:=str s0_buf) rfl))<|WA.done kr ?_
         obtain rfl:=oi h
         refine WP.ret (OutS.one (L':=[.box d 69 [va0,b]]) rfl lr S rfl ?_)
         exact ⟨rfl,rfl⟩
        refine WL.w (R.loadB (i:=0) (v:=b) S rfl rfl lay67 rfl)<|WL.e<|At_ 9 12 1007 rfl (fun _=>(R.lenL (α:=UInt8) (xs:=s0_buf) (H:=Hs) R0_1 rfl Tryz.underlying67))<|WA.one (i:=4) (bm 12 1023) rfl kr rfl<|W.sliceData (i:=1) S rfl rfl Tryz.underlying116 ?_
        intro f k c S
        refine We<|WA.one (i:=10) (bm 12 2047) rfl kr rfl ?_
        refine W.strOf (i:=1) S rfl R0_1 c rfl rfl Tryz.underlying116 ceo5 ?_
        intro l S
        refine We ?_
        refine At_ 11 12 4095 rfl (fun _=>(R.as (v:=str s0_buf) rfl))<|WA.done kr ?_
        obtain rfl:=oi h
        refine WP.ret (OutS.one (L':=[.box d 69 [va0,b]]) rfl lr S rfl ?_)
        exact ⟨rfl,rfl⟩
      refine WL.w (R.loadB (i:=0) (v:=b) S rfl rfl lay67 rfl)<|WL.e<|At_ 9 12 999 rfl (fun _=>(R.lenL (α:=UInt8) (xs:=s0_buf) (H:=Hs) R0_1 rfl Tryz.underlying67))<|WA.one (i:=3) (bm 12 1007) rfl kr rfl<|WL.w (R.loadB (i:=0) (v:=b) S rfl rfl lay67 rfl)<|WL.e<|WA.one (i:=4) (bm 12 1023) rfl kr rfl<|W.sliceData (i:=1) S rfl rfl Tryz.underlying116 ?_
      intro f k c S
      refine We<|WA.one (i:=10) (bm 12 2047) rfl kr rfl ?_
      refine W.strOf (i:=1) S rfl R0_1 c rfl rfl Tryz.underlying116 ceo5 ?_
      intro l S
      refine We ?_
      refine At_ 11 12 4095 rfl (fun _=>(R.as (v:=str s0_buf) rfl))<|WA.done kr ?_
      obtain rfl:=oi h
      refine WP.ret (OutS.one (L':=[.box d 69 [va0,b]]) rfl lr S rfl ?_)
      exact ⟨rfl,rfl⟩
   refine WL.w (R.nilCheckB rfl)<|WL.e<|At_ 7 12 225 rfl (fun _=>(R.fieldB rfl zFz)) ?_
   refine WA.two (i:=1) (j:=8) (bm 12 227) (bm 12 481) rfl rfl kr rfl rfl ?_ ?_
   · refine WL.w (R.nilCheckB rfl)<|WL.e<|At_ 2 12 231 rfl (fun _=>(R.fieldB rfl zFz)) ?_
     refine WA.two (i:=3) (j:=8) (bm 12 239) (bm 12 487) rfl rfl kr rfl rfl ?_ ?_
     · refine WL.w (R.loadB (i:=0) (v:=b) S rfl rfl lay67 rfl)<|WL.e ?_
       refine WA.two (i:=4) (j:=8) (bm 12 255) (bm 12 495) rfl rfl kr rfl rfl ?_ ?_
       · refine W.sliceData (i:=1) S rfl rfl Tryz.underlying116 ?_
         intro f k c S
         refine We<|WA.one (i:=8) (bm 12 511) rfl kr rfl ?_
         refine Lo 0 S<|We ?_
         refine At_ 9 12 1023 rfl (fun _=>(R.lenL (α:=UInt8) (xs:=s0_buf) (H:=Hs) R0_1 rfl Tryz.underlying67))<|WA.one (i:=10) (bm 12 2047) rfl kr rfl ?_
         refine W.strOf (i:=1) S rfl R0_1 c rfl rfl Tryz.underlying116 ceo5 ?_
         intro l S
         refine We ?_
         refine At_ 11 12 4095 rfl (fun _=>(R.as (v:=str s0_buf) rfl))<|WA.done kr ?_
         obtain rfl:=oi h
         refine WP.ret (OutS.one (L':=[.box d 69 [va0,b]]) rfl lr S rfl ?_)
         exact ⟨rfl,rfl⟩
        refine WL.w (R.loadB (i:=0) (v:=b) S rfl rfl lay67 rfl)<|WL.e<|At_ 9 12 1007 rfl (fun _=>(R.lenL (α:=UInt8) (xs:=s0_buf) (H:=Hs) R0_1 rfl Tryz.underlying67))<|WA.one (i:=4) (bm 12 1023) rfl kr rfl<|W.sliceData (i:=1) S rfl rfl Tryz.underlying116 ?_
        intro f k c S
        refine We<|WA.one (i:=10) (bm 12 2047) rfl kr rfl ?_
        refine W.strOf (i:=1) S rfl R0_1 c rfl rfl Tryz.underlying116 ceo5 ?_
        intro l S
        refine We ?_
        refine At_ 11 12 4095 rfl (fun _=>(R.as (v:=str s0_buf) rfl))<|WA.done kr ?_
        obtain rfl:=oi h
        refine WP.ret (OutS.one (L':=[.box d 69 [va0,b]]) rfl lr S rfl ?_)
        exact ⟨rfl,rfl⟩
      refine WL.w (R.loadB (i:=0) (v:=b) S rfl rfl lay67 rfl)<|WL.e<|At_ 9 12 999 rfl (fun _=>(R.lenL (α:=UInt8) (xs:=s0_buf) (H:=Hs) R0_1 rfl Tryz.underlying67))<|WA.one (i:=3) (bm 12 1007) rfl kr rfl<|WL.w (R.loadB (i:=0) (v:=b) S rfl rfl lay67 rfl)<|WL.e<|WA.one (i:=4) (bm 12 1023) rfl kr rfl<|W.sliceData (i:=1) S rfl rfl Tryz.underlying116 ?_
      intro f k c S
      refine We<|WA.one (i:=10) (bm 12 2047) rfl kr rfl ?_
      refine W.strOf (i:=1) S rfl R0_1 c rfl rfl Tryz.underlying116 ceo5 ?_
      intro l S
      refine We ?_
      refine At_ 11 12 4095 rfl (fun _=>(R.as (v:=str s0_buf) rfl))<|WA.done kr ?_
      obtain rfl:=oi h
      refine WP.ret (OutS.one (L':=[.box d 69 [va0,b]]) rfl lr S rfl ?_)
      exact ⟨rfl,rfl⟩
    refine WL.w (R.loadB (i:=0) (v:=b) S rfl rfl lay67 rfl)<|WL.e<|At_ 9 12 993 rfl (fun _=>(R.lenL (α:=UInt8) (xs:=s0_buf) (H:=Hs) R0_1 rfl Tryz.underlying67))<|WA.one (i:=1) (bm 12 995) rfl kr rfl<|WL.w (R.nilCheckB rfl)<|WL.e<|At_ 2 12 999 rfl (fun _=>(R.fieldB rfl zFz))<|WA.one (i:=3) (bm 12 1007) rfl kr rfl<|WL.w (R.loadB (i:=0) (v:=b) S rfl rfl lay67 rfl)<|WL.e<|WA.one (i:=4) (bm 12 1023) rfl kr rfl<|W.sliceData (i:=1) S rfl rfl Tryz.underlying116 ?_
    intro f k c S
    refine We<|WA.one (i:=10) (bm 12 2047) rfl kr rfl ?_
    refine W.strOf (i:=1) S rfl R0_1 c rfl rfl Tryz.underlying116 ceo5 ?_
    intro l S
    refine We ?_
    refine At_ 11 12 4095 rfl (fun _=>(R.as (v:=str s0_buf) rfl))<|WA.done kr ?_
    obtain rfl:=oi h
    refine WP.ret (OutS.one (L':=[.box d 69 [va0,b]]) rfl lr S rfl ?_)
    exact ⟨rfl,rfl⟩
theorem zHr {d : World} {b : Hp} (hw : Holds d b) (hG : Tryz.Gl d) (b5 : Str) (ao : (List GField)) (al : Int) (ap : Str) {a0 : Value} (l : Sl b a0 ao) {r : Str} (h : zGf b5 ao al ap = some r) :
    Cs Tryz.prog 137 [(str b5),a0,(int al),(str ap)] d b r:=by
  refine CM 64 Tryz.func137 hw fun S=>?_
  refine Ws<|Wg<|A<|We<|Ws<|Ws<|Wg<|M<|Na<|We ?_
  rcases condE h with ⟨ba,h⟩ | ⟨ba,h⟩
  · refine WP.condT rfl ba<|WP.s<|WP.g<|WL.a (str []) rfl<|WL.e ?_
    exact WP.ret (Rs h S)
   refine WP.condF rfl ba<|WP.skip<|WP.s<|WP.g<|W.alloc [(.pointer none),(.slice none 0 0)] S zer69 ?_
   intro c w3 S
   refine We<|Ws<|Wg<|M<|B h fun s4 ci h=>Je ci ?_
   obtain ⟨v5,bb⟩:∃ v:Value,v=.slice none 0 0:=⟨_,rfl⟩
   have R7:Sl (α:=UInt8) b v5 []:=by rw [bb]; exact Sl.nil
   replace S:=(show ∀ {w:World},St d b w b [.box c 69 [(.pointer none),(.slice none 0 0)]]→St d b w b [.box c 69 [(.pointer none),v5]] from fun S=>by rw [bb]; exact S) S
   replace S:=St.addNilV bb S 5 1
   replace S:=S.front 1 rfl
   replace S:St d b _ b [.box c 69 [(.pointer none),v5],.row v5 5 1 ([]:List UInt8).length]:=S
   refine B h fun r8 ck h=>W.callS rfl (zAH hG s4 ([]:List UInt8) S R7 (Or.inl rfl) ck) ?_
   rintro v9 d3 bd d4 cl S ⟨be,aq,rfl,rfl,cm,cn⟩
   replace S:St d b _ bd [.box c 69 [be,aq],.row aq 5 1 r8.2.2.length]:=S
   replace S:=S.front 1 rfl
   replace S:St d b _ bd [.row aq 5 1 r8.2.2.length,.box c 69 [be,aq]]:=S
   have l:=l.up cl
   refine We<|Ws<|Wg<|A<|We<|Ws<|Ws<|Wg<|M<|Nq l<|M<|We<|B h fun bf co h=>WP.cut (fun f w=>match bf with | .inl au=>∃ (a2:Hp) (am:Value) (ai:Value),f 2=(int al)∧f 3=(str ap)∧f 9=(ptr c 0)∧(am=Value.pointer none∨am=ptr c 0)∧Sl a2 ai au∧St d b w a2 [.row ai 5 1 au.length,.box c 69 [am,ai]] | .inr _=>False) ?_ ?_
   · refine WP.block ?_
     refine WP.loopM (zFB ao) (fun s f w=>match s with | (aj,bg,z)=>∃ (av:Hp) (x:Value) (o:Value),f 2=(int al)∧f 3=(str ap)∧f 9=(ptr c 0)∧f 10=(int aj)∧f 19=a0∧f 20=(int (ao.length:Int))∧f 21=(int bg)∧Sl av a0 ao∧(x=Value.pointer none∨x=ptr c 0)∧Sl av o z∧St d b w av [.row o 5 1 z.length,.box c 69 [x,o]]) (0,0,r8.2.2) bf co ?_ ?_
     · exact ⟨bd,be,aq,rfl,rfl,rfl,rfl,rfl,rfl,rfl,l,cm,cn,S⟩
      intro s f w hI d5 j b6
      obtain ⟨aj,bg,z⟩:=s
      obtain ⟨av,x,o,bh,bi,aw,b7,bj,bn,a3,l,a4,p,S⟩:=hI
      refine Ws<|Wg<|La' a3 bn<|We<|Ws ?_
      rcases condE j with ⟨bo,j⟩ | ⟨bo,j⟩
      · refine WP.condT rfl bo<|WP.skip<|WP.s<|WP.block<|WP.s<|WP.g ?_
        refine B j fun k cp j=>W.idx (α:=GField) l bj a3 el26 cp ?_
        rintro d6 _ cq rfl
        refine WL.w (R.loadHN (vs:=[(str k.fName),(str k.fValue)]) S rfl cq lay41 rfl rfl) ?_
        refine W.alloc [(str []),(str [])] S zer41 ?_
        intro ad d7 S
        refine W.store (i:=0) [(str k.fName),(str k.fValue)] S rfl rfl rfl lay41 rfl rfl (Nat.le_of_ble_eq_true rfl) rfl ?_
        intro d8 S
        refine We<|Ws<|Ws<|Wg<|Fb ?_
        refine Lo 0 S<|B j fun cr cs j=>W.call S rfl (zHG S.holds (hG.post S.post) k.fName [67,111,110,116,101,110,116,45,76,101,110,103,116,104] cs) ?_
        rintro d9 ea b8 ct S rfl
        have ⟨l,p⟩:=U2 ct l p
        refine M<|B j fun cu ae j=>WL.grpw 4 [29,30,31] 32 (boo cu) (fun w=>∃ H':Hp,b8.le H'∧St d b w H' [.box ad 41 [(str k.fName),(str k.fValue)],.row o 5 1 z.length,.box c 69 [x,o]]) ?_ ?_
        · rcases boolE cr with aa | aa
          · replace ae:=condT ae aa
            refine Gn aa<|Gn aa<|Gn aa<|Pt aa ?_
            exact We ⟨(ob ae),ag,⟨b8,lr,S⟩⟩
           replace ae:=condF ae aa
           refine Gy aa<|Fb<|Gy aa ?_
           refine Lo 0 S<|Gy aa<|B ae fun eb cv ae=>W.call S rfl (zHG S.holds (hG.post S.post) k.fName [84,114,97,110,115,102,101,114,45,69,110,99,111,100,105,110,103] cv) ?_
           rintro ec ed cw b9 S rfl
           have ⟨l,p⟩:=U2 b9 l p
           refine Pf aa ?_
           exact We ⟨(ob ae),ag,⟨cw,b9,S⟩⟩
         intro us ee ⟨cx,cy,S⟩
         have ⟨l,p⟩:=U2 cy l p
         refine We ?_
         rcases condE j with ⟨bp,j⟩ | ⟨bp,j⟩
         · refine WP.condT rfl bp<|WP.exit<|WP.g<|WL.w (R.add a3 rfl)<|WL.m (int (wr (bg+1))) rfl<|WL.e ?_
           obtain rfl:=oi j
           exact ⟨rfl,⟨cx,x,o,bh,bi,aw,b7,bj,bn,rfl,l,a4,p,(S.pk [1,2])⟩⟩
          refine WP.condF rfl bp<|WP.skip<|WP.s<|WP.g<|WL.m (int aj) b7<|WL.w (R.add rfl rfl)<|WL.a (int (wr (aj+1))) rfl<|WL.e<|WP.s<|WP.g<|WL.w (R.loadBN (i:=0) (vs:=[(str k.fName),(str k.fValue)]) S rfl rfl lay41 rfl rfl) ?_
          refine B j fun a5 cz j=>W.call S rfl (zGr S.holds (hG.post S.post) k cz) ?_
          rintro ef eg bq c0 S rfl
          have ⟨l,p⟩:=U2 c0 l p
          refine A<|We<|Ws<|Ws<|Wg<|M<|Na<|M ?_
          refine WL.grp 3 [40,41] 42 (boo ((a5==[])||(decide (64≤(wr (aj+1)))))) ?_ ?_
          · rcases boolE (a5==[]) with ab | ab
            · refine WL.n rfl rfl ab<|WL.n rfl rfl ab<|WL.w (R.pickT rfl ab rfl) ?_
              exact We ⟨(orT ab),ag,rfl⟩
             refine WL.y rfl rfl ab<|WL.m (int (wr (aj+1))) rfl<|WL.y rfl rfl ab<|WL.w (R.geq rfl rfl)<|WL.w (R.pickF rfl ab rfl) ?_
             exact We ⟨(orF ab),ag,rfl⟩
           intro us
           refine M<|B j fun c1 af j=>WL.grpw 3 [44,45] 46 (boo c1) (fun w=>∃ H':Hp,bq.le H'∧St d b w H' [.box ad 41 [(str k.fName),(str k.fValue)],.row o 5 1 z.length,.box c 69 [x,o]]) ?_ ?_
           · rcases boolE ((a5==[])||(decide (64≤(wr (aj+1))))) with ac | ac
             · replace af:=condT af ac
               refine Gn ac<|Gn ac<|Pt ac ?_
               exact We ⟨(ob af),ag,⟨bq,lr,S⟩⟩
              replace af:=condF af ac
              refine Gy ac ?_
              replace S:=S.front 1 rfl
              replace S:=S.front 2 rfl
              replace S:St d b _ bq [.box c 69 [x,o],.row o 5 1 z.length,.box ad 41 [(str k.fName),(str k.fValue)]]:=S
              refine B af fun eh c2 af=>W.callS (mapC aw mapN) (zBh hG z S p a4 c2) ?_
              rintro ei ej br ek ca S ⟨rfl,rfl⟩
              replace S:St d b _ br [.box c 69 [x,o],.row o 5 1 z.length,.box ad 41 [(str k.fName),(str k.fValue)]]:=S
              replace S:=S.front 1 rfl
              replace S:=S.front 2 rfl
              replace S:St d b _ br [.box ad 41 [(str k.fName),(str k.fValue)],.row o 5 1 z.length,.box c 69 [x,o]]:=S
              have ⟨l,p⟩:=U2 ca l p
              refine Gy ac<|Lc<|Pf ac ?_
              exact We ⟨(ob af),ag,⟨br,ca,S⟩⟩
            intro us el ⟨c3,c7,S⟩
            have ⟨l,p⟩:=U2 c7 l p
            refine We ?_
            rcases condE j with ⟨bs,j⟩ | ⟨bs,j⟩
            · refine WP.condT rfl bs<|WP.s<|WP.g<|WL.a (str []) rfl<|WL.e ?_
              obtain rfl:=oi j
              obtain rfl:=b6
              exact WP.ret (Rs h S)
             refine WP.condF rfl bs<|WP.skip<|WP.g<|WL.m (str a5) rfl ?_
             refine B j fun da db j=>Je db ?_
             replace S:=S.front 1 rfl
             replace S:=S.front 2 rfl
             replace S:St d b _ c3 [.box c 69 [x,o],.row o 5 1 z.length,.box ad 41 [(str k.fName),(str k.fValue)]]:=S
             refine B j fun cb dc j=>W.callS (mapC aw (mapC rfl mapN)) (zAH hG da z S p a4 dc) ?_
             rintro em en bt eo dd S ⟨bu,ax,rfl,rfl,de,df⟩
             replace S:St d b _ bt [.box c 69 [bu,ax],.row ax 5 1 cb.2.2.length,.box ad 41 [(str k.fName),(str k.fValue)]]:=S
             replace S:=S.front 1 rfl
             replace S:=S.front 2 rfl
             replace S:St d b _ bt [.box ad 41 [(str k.fName),(str k.fValue)],.row ax 5 1 cb.2.2.length,.box c 69 [bu,ax]]:=S
             have l:=l.up dd
             refine We<|Wg<|Lg' a3 rfl<|M<|We ?_
             obtain rfl:=oi j
             exact ⟨rfl,⟨bt,bu,ax,bh,bi,aw,rfl,bj,bn,rfl,l,de,df,(S.pk [1,2])⟩⟩
       refine WP.condF rfl bo<|WP.exit ?_
       obtain rfl:=oi j
       obtain rfl:=b6
       exact ⟨av,x,o,bh,bi,aw,a4,p,S⟩
    intro f w hM
    rcases bf with au | e
    · obtain ⟨a2,am,ai,cc,cd,bv,ce,a6,S⟩:=hM
      refine Ws<|Ws<|Wg<|M' cc<|Ld<|We<|B h fun a7 t h=>WP.cut (fun f w=>∃ (a8:Hp) (ay:Value) (an:Value),f 3=(str ap)∧f 9=(ptr c 0)∧(ay=Value.pointer none∨ay=ptr c 0)∧Sl a8 an a7∧St d b w a8 [.row an 5 1 a7.length,.box c 69 [ay,an]]) ?_ ?_
      · rcases condE t with ⟨bw,t⟩ | ⟨bw,t⟩
        · refine WP.condT rfl bw<|WP.g<|WL.m (int al) cc ?_
          refine B t fun ep dh t=>W.call S rfl (zIS S.holds (hG.post S.post) al dh) ?_
          rintro eq er di dj S rfl
          have a6:=a6.up dj
          refine B t fun es dk t=>Je dk<|B t fun dl dm t=>Je dm ?_
          replace S:=S.front 1 rfl
          replace S:St d b _ di [.box c 69 [am,ai],.row ai 5 1 au.length]:=S
          refine B t fun cf dn t=>W.callS (mapC bv (mapC rfl mapN)) (zAH hG dl au S a6 ce dn) ?_
          rintro et eu bx ew ex S ⟨bz,az,rfl,rfl,dp,dq⟩
          replace S:St d b _ bx [.box c 69 [bz,az],.row az 5 1 cf.2.2.length]:=S
          replace S:=S.front 1 rfl
          replace S:St d b _ bx [.row az 5 1 cf.2.2.length,.box c 69 [bz,az]]:=S
          refine We ?_
          obtain rfl:=oi t
          exact ⟨bx,bz,az,cd,bv,dp,dq,S⟩
         refine WP.condF rfl bw<|WP.skip ?_
         obtain rfl:=oi t
         exact ⟨a2,am,ai,cd,bv,ce,a6,S⟩
       rintro f w ⟨a8,ay,an,dr,b0,ds,dt,S⟩
       refine Ws<|Wg ?_
       replace S:=S.front 1 rfl
       replace S:St d b _ a8 [.box c 69 [ay,an],.row an 5 1 a7.length]:=S
       refine B h fun ah du h=>W.callS (mapC b0 (mapC rfl mapN)) (zAH hG [13,10] a7 S dt ds du) ?_
       rintro ey ez b1 e0 e1 S ⟨ak,u,rfl,rfl,cg,a9⟩
       replace S:St d b _ b1 [.box c 69 [ak,u],.row u 5 1 ah.2.2.length]:=S
       replace S:=S.front 1 rfl
       replace S:St d b _ b1 [.row u 5 1 ah.2.2.length,.box c 69 [ak,u]]:=S
       refine We<|Ws<|Ws<|Wg ?_
       replace S:=S.front 1 rfl
       replace S:St d b _ b1 [.box c 69 [ak,u],.row u 5 1 ah.2.2.length]:=S
       refine B h fun e2 dw h=>W.callS (mapC b0 mapN) (zBh hG ah.2.2 S a9 cg dw) ?_
       rintro e3 e4 b3 e5 dx S ⟨rfl,rfl⟩
       replace S:St d b _ b3 [.box c 69 [ak,u],.row u 5 1 ah.2.2.length]:=S
       replace S:=S.front 1 rfl
       replace S:St d b _ b3 [.row u 5 1 ah.2.2.length,.box c 69 [ak,u]]:=S
       have a9:=a9.up dx
       refine Lc<|We ?_
       rcases condE h with ⟨b4,h⟩ | ⟨b4,h⟩
       · refine WP.condT rfl b4<|WP.s<|WP.g<|WL.a (str []) rfl<|WL.e ?_
         exact WP.ret (Rs h S)
        refine WP.condF rfl b4<|WP.skip<|WP.s<|WP.g ?_
        replace S:=S.front 1 rfl
        replace S:St d b _ b3 [.box c 69 [ak,u],.row u 5 1 ah.2.2.length]:=S
        refine B h fun e6 dy h=>W.callS (mapC b0 mapN) (zAq hG ah.2.2 S a9 cg dy) ?_
        rintro e7 e8 dz e9 fa S ⟨rfl,rfl⟩
        replace S:St d b _ dz [.box c 69 [ak,u]]:=S
        refine M' dr<|B h fun fb d0 h=>Je d0<|A<|We ?_
        exact WP.ret (Rs h S)
     exact hM.elim
end Go.Proofs
namespace Go.Proofs
open Go Go.Eng Go.VI Go.Eng.Pure
set_option linter.unusedVariables false
set_option maxRecDepth 10000
set_option maxHeartbeats 4000000
theorem c137:FE.ok (U:=UU) Tryz.prog ⟨137,[.str,(.sl (.st 41)),.int,.str],[.str],fun x=>zGf x.1 x.2.1 x.2.2.1 x.2.2.2⟩:=@fun w H az x y hw hg b hT h=>by
 obtain ⟨c,_,rfl,d,⟨o,_,rfl,f,⟨i,_,rfl,j,⟨k,rfl,l⟩⟩⟩⟩:=hT
 obtain rfl:c=_:=d
 obtain rfl:i=_:=j
 obtain rfl:k=_:=l
 exact (zHr hw b x.1 x.2.1 x.2.2.1 x.2.2.2 f h).mono (fun _ _ e=>⟨[_],e,_,rfl,rfl⟩)
end Go.Proofs
namespace Go.Proofs
open Go.Eng Go.Eng.Pure
set_option linter.unusedVariables false
theorem zJJ {c : World} {b : Hp} (hw : Holds c b) (d : List Str) (f : Str) {vl : Value} (R : Sl b vl d) {r : Str} (h : strings_Join d f = some r) :
    Cs Tryz.prog 50 [vl,(str f)] c b r :=
  zRQ Tryz.func50 rfl kr hw R h Tryz.strings_Join_none Tryz.strings_Join
end Go.Proofs
namespace Go.Proofs
open Go Go.Eng Go.VI Go.Eng.Pure
set_option linter.unusedVariables false
set_option maxRecDepth 10000
set_option maxHeartbeats 4000000
theorem c50:FE.ok (U:=UU) Tryz.prog ⟨50,[(.sl .str),.str],[.str],fun x=>strings_Join x.1 x.2⟩:=@fun w H az x y hw hg f hT h=>by
 obtain ⟨i,_,rfl,b,⟨c,rfl,d⟩⟩:=hT
 obtain rfl:c=_:=d
 exact (zJJ hw x.1 x.2 b h).mono (fun _ _ e=>⟨[_],e,_,rfl,rfl⟩)
end Go.Proofs
namespace Go.Proofs
open Go.Eng Go.Eng.Pure
set_option linter.unusedVariables false
theorem zGs {b : World} {c : Hp} (hw : Holds b c) (d : Str) (f : Str) {r : Int} (h : zBS d f = some r) :
    Ci Tryz.prog 177 [(str d),(str f)] b c r :=
  zP0 Tryz.func177 rfl kr hw h (zGV Tryz.lays153 kr)
end Go.Proofs
namespace Go.Proofs
open Go Go.Eng Go.VI Go.Eng.Pure
set_option linter.unusedVariables false
set_option maxRecDepth 10000
set_option maxHeartbeats 4000000
theorem c177:FE.ok (U:=UU) Tryz.prog ⟨177,[.str,.str],[.int],fun x=>zBS x.1 x.2⟩:=@fun w H az x y hw hg i hT h=>by
 obtain ⟨b,_,rfl,c,⟨d,rfl,f⟩⟩:=hT
 obtain rfl:b=_:=c
 obtain rfl:d=_:=f
 exact (zGs hw x.1 x.2 h).mono (fun _ _ e=>⟨[_],e,_,rfl,rfl⟩)
end Go.Proofs
namespace Go.Proofs
open Go.Eng Go.Eng.Pure
set_option linter.unusedVariables false
theorem mz4:((Tryz.prog.info? 4).bind (·.zero))=some (boo false):=by kernel_rfl
theorem zHx {t : World} {o : Hp} (hw : Holds t o) (hG : Tryz.Gl t) (c : GAxis) {p : Value} (j : Sl o p c.fValues) {r : Bool} (h : zCb c = some r) :
    Cb Tryz.prog 26 [(agg [(str c.fName),p])] t o r:=by
  refine CM 46 Tryz.func26 hw fun S=>?_
  refine Ws<|Wg ?_
  refine W.box [(str c.fName),p] S rfl rfl ?_
  intro b1 w2 S
  refine A<|We<|Ws<|Ws<|Wg<|Fb ?_
  refine Lo 0 S<|Nq j<|La<|M ?_
  refine WL.grp 5 [14,15,16,17] 18 (boo ((decide ((c.fValues.length:Int)<1))||(decide (16<(c.fValues.length:Int))))) ?_ ?_
  · rcases boolE (decide ((c.fValues.length:Int)<1)) with d | d
    · refine WL.n rfl rfl d<|WL.n rfl rfl d<|WL.n rfl rfl d<|WL.n rfl rfl d<|WL.w (R.pickT rfl d rfl) ?_
      exact We ⟨(orT d),ag,rfl⟩
     refine WL.y rfl rfl d<|WL.w (R.fieldB rfl zL3)<|WL.y rfl rfl d<|WL.w (R.loadB (i:=0) (v:=p) S rfl rfl lay36 rfl)<|WL.y rfl rfl d<|WL.w (R.lenL (α:=Str) (xs:=c.fValues) (H:=o) j rfl Tryz.underlying36)<|WL.y rfl rfl d<|WL.w (R.gtr rfl rfl)<|WL.w (R.pickF rfl d rfl) ?_
     exact We ⟨(orF d),ag,rfl⟩
   intro us
   refine We ?_
   rcases condE h with ⟨aa,h⟩ | ⟨aa,h⟩
   · refine WP.condT rfl aa<|WP.s<|WP.g<|WL.a (boo false) rfl<|WL.e ?_
     exact WP.ret (Rb h S)
    refine WP.condF rfl aa<|WP.skip<|WP.s<|WP.g<|WL.w (R.fieldB rfl zMd)<|WL.w (R.loadB (i:=0) (v:=str c.fName) S rfl rfl lay9 rfl) ?_
    refine B h fun r6 aq h=>W.call S rfl (zDw S.holds (hG.post S.post) c.fName aq) ?_
    rintro v7 w8 H9 av S rfl
    have j:=j.up av
    refine A<|We<|Ws<|Wg<|W.makeMap S ?_
    intro ac a9 S
    refine A<|We<|Ws<|Ws<|Wg<|Fb ?_
    refine Lo 1 S<|Nq j<|M<|We<|B h fun ad aw h=>WP.cut (fun f w=>match ad with | .inl _=>∃ (aj:Hp),St t o w aj [] | .inr _=>False) ?_ ?_
    · refine WP.block ?_
      refine WP.loopM (zA0 c r6) (fun s f w=>match s with | (ak,u)=>∃ (x:Hp),f 3=(Tryz.vvariants_domain r6)∧f 4=(mapv ac)∧f 24=p∧f 25=(int (c.fValues.length:Int))∧f 26=(int ak)∧Sl x p c.fValues∧St t o w x [.mp ac (encm boo u)]) (0,([]:List (Str×Bool))) ad aw ?_ ?_
      · exact ⟨H9,rfl,rfl,rfl,rfl,rfl,j,(S.pk [0])⟩
       intro s f w hI ba b al
       obtain ⟨ak,u⟩:=s
       obtain ⟨x,am,ae,an,ao,af,j,S⟩:=hI
       refine Ws<|Wg<|La' af ao<|We<|Ws ?_
       rcases condE b with ⟨ah,b⟩ | ⟨ah,b⟩
       · refine WP.condT rfl ah<|WP.skip<|WP.s<|WP.block<|WP.s<|WP.g ?_
         refine B b fun ax ay b=>W.idx (α:=Str) j an af el36 ay ?_
         rintro bb _ az rfl
         refine Lq S az<|A<|We<|Ws<|Wg<|M' am<|M<|B b fun ap a0 b=>W.invoke S rfl rfl (zBs S.holds (hG.post S.post) r6 ax a0) ?_
         rintro bc bd a1 a2 S rfl
         have j:=j.up a2
         refine M ?_
         refine Ex ?_
         refine Ex<|A<|A<|We<|Ws<|Ws<|Wg<|M<|No<|M<|B b fun a3 l b=>WL.grp 4 [39,40,41] 42 (boo a3) ?_ ?_
         · rcases boolE (!ap.2) with k | k
           · replace l:=condT l k
             refine Gn k<|Gn k<|Gn k<|Pt k ?_
             exact We ⟨(ob l),ag,rfl⟩
            replace l:=condF l k
            refine Gy k<|M' ae<|Gy k<|M<|Gy k<|B l fun g38 a4 l=>?_
            refine WL.w (v:=boo g38.1) (R.ofEq (R.lookup1 boo (i:=0) (m:=u) (z:=false) S rfl rfl rfl Tryz.underlying105 Tryz.underlying9 mz4 rfl) (by rw [oi a4]))<|Pf k ?_
            exact We ⟨(ob l),ag,rfl⟩
          intro us
          refine We ?_
          rcases condE b with ⟨ai,b⟩ | ⟨ai,b⟩
          · refine WP.condT rfl ai<|WP.s<|WP.g<|WL.a (boo false) rfl<|WL.e ?_
            obtain rfl:=oi b
            obtain rfl:=al
            exact WP.ret (Rb h S)
           refine WP.condF rfl ai<|WP.skip<|WP.g<|WL.m (mapv ac) ae<|WL.m (str ap.1) rfl<|W.mapUpdate boo (i:=0) (m:=u) true S rfl rfl rfl rfl rfl Tryz.underlying105 Tryz.underlying9 ?_
           intro be S
           refine We<|Wg<|Lg' af rfl<|M<|We ?_
           obtain rfl:=oi b
           exact ⟨rfl,⟨a1,am,ae,an,ao,rfl,j,S⟩⟩
        refine WP.condF rfl ah<|WP.exit ?_
        obtain rfl:=oi b
        obtain rfl:=al
        exact ⟨x,(S.pk [])⟩
     intro f w hM
     rcases ad with _ | e
     · obtain ⟨aj,S⟩:=hM
       refine Ws<|Wg<|A<|We ?_
       exact WP.ret (Rb h S)
      exact hM.elim
end Go.Proofs
namespace Go.Proofs
open Go Go.Eng Go.VI Go.Eng.Pure
set_option linter.unusedVariables false
set_option maxRecDepth 10000
set_option maxHeartbeats 4000000
theorem c26:FE.ok (U:=UU) Tryz.prog ⟨26,[(.st 62)],[.boo],fun x=>zCb x⟩:=@fun w H az x y hw hg b hT h=>by
 obtain ⟨d,rfl,c⟩:=hT
 obtain ⟨_,rfl,⟨_,rfl,S0_1⟩⟩:=c
 exact (zHx hw b x S0_1 h).mono (fun _ _ e=>⟨[_],e,_,rfl,rfl⟩)
theorem c11:FE.ok (U:=UU) Tryz.prog ⟨11,[(.sl (.st 62))],[.boo],fun x=>zA3 x⟩:=mk (fcons c26 (fcons c25 (fcons c24 anil))) (.n .e (.n .e (.n (.n .e (.lp ⟨[⟨.sl 17,.int,none⟩],some [],[]⟩ (some ⟨[],some [],[]⟩) true (.n .e (.n .e (.n (.n (.n .e (.n .e (.n .e (.lp ⟨[⟨.sl 43,.int,none⟩],some [],[]⟩ (some ⟨[],some [],[]⟩) true .e)))) .e) .e))))) .e))) Tryz.func11
end Go.Proofs
namespace Go.Proofs
open Go.Eng Go.Eng.Pure
set_option linter.unusedVariables false
theorem zDr {b : World} {d : Hp} (hw : Holds b d) (hG : Tryz.Gl b) (f : List Str) {j : Value} (k : Sl d j f) {r : List Str} (h : zAV f = some r) :
    Con Tryz.prog 212 [j] b d (fun H' v=>Sl H' v r):=by
  unfold zAV at h
  refine CM 8 Tryz.func212 hw fun S=>?_
  refine Ws<|Wg<|A<|We<|Ws<|Ws<|Wg<|M ?_
  rcases Sl.nilE k with ⟨c,hv,hl⟩ | ⟨a,n,c,hv⟩
  · refine WL.w (R.eqNil hv rfl Tryz.underlying36)<|WL.e<|WP.condT rfl rfl<|WP.s<|WP.g<|WL.a (.slice none 0 0) rfl<|WL.e ?_
    refine WP.ret (Out.one rfl S rfl ?_)
    subst hl
    obtain rfl:=oi h
    exact Sl.nil
   refine WL.w (R.eqNil hv rfl Tryz.underlying36)<|WL.e<|WP.condF rfl rfl<|WP.skip<|WP.s<|WP.g<|W.bslice (α:=Str) (n:=0) (ps:=[]) [] [] S el36 rfl rfl rfl (by decide) (fun i v x h=>by cases h) ?_
   intro u t z l o S
   have Rp:=k.up l
   refine M<|W.app (α:=Str) (i:=0) S el36 rfl rfl rfl o Rp h ?_
   intro v2 w2 H2 ad p S
   refine A<|We ?_
   refine WP.ret (Out.one rfl S rfl ?_)
   exact p
end Go.Proofs
namespace Go.Proofs
open Go Go.Eng Go.VI Go.Eng.Pure
set_option linter.unusedVariables false
set_option maxRecDepth 10000
set_option maxHeartbeats 4000000
theorem c212:FE.ok (U:=UU) Tryz.prog ⟨212,[(.sl .str)],[(.sl .str)],fun x=>zAV x⟩:=@fun w H az x y hw hg b hT h=>by
 obtain ⟨d,rfl,c⟩:=hT
 exact (zDr hw b x c h).mono (fun _ v K0=>⟨[v],rfl,v,rfl,K0⟩)
theorem c186:FE.ok (U:=UU) Tryz.prog ⟨186,[(.sl (.st 62))],[(.sl (.st 62))],fun x=>zJs x⟩:=mk (fcons c212 anil) (.n .e (.n .e (.n (.n .e (.lp ⟨[⟨.sl 3,(.sl (.st 62)),some 62⟩,⟨.sl 8,.int,none⟩],some [],[]⟩ (some ⟨[⟨.sl 3,(.sl (.st 62)),some 62⟩],some [],[]⟩) false .e)) .e))) Tryz.func186 [(5,8,[.t 0,.t 1,.t 2,.t 3,.t 4,.l 5 true,.t 6,.l 7 true,.l 8 false,.l 9 false])]
end Go.Proofs
namespace Go.Proofs
open Go.Eng Go.Eng.Pure
set_option linter.unusedVariables false
theorem zCn {b : World} {d : Hp} (hw : Holds b d) (hG : Tryz.Gl b) (f : List GField) {j : Value} (k : Sl d j f) {r : List GField} (h : zAi f = some r) :
    Con Tryz.prog 213 [j] b d (fun H' v=>Sl H' v r):=by
  unfold zAi at h
  refine CM 8 Tryz.func213 hw fun S=>?_
  refine Ws<|Wg<|A<|We<|Ws<|Ws<|Wg<|M ?_
  rcases Sl.nilE k with ⟨c,hv,hl⟩ | ⟨a,n,c,hv⟩
  · refine WL.w (R.eqNil hv rfl Tryz.underlying26)<|WL.e<|WP.condT rfl rfl<|WP.s<|WP.g<|WL.a (.slice none 0 0) rfl<|WL.e ?_
    refine WP.ret (Out.one rfl S rfl ?_)
    subst hl
    obtain rfl:=oi h
    exact Sl.nil
   refine WL.w (R.eqNil hv rfl Tryz.underlying26)<|WL.e<|WP.condF rfl rfl<|WP.skip<|WP.s<|WP.g<|W.bslice (α:=GField) (n:=0) (ps:=[]) [] [] S el26 rfl rfl rfl (by decide) (fun i v x h=>by cases h) ?_
   intro u t z l o S
   have Rp:=k.up l
   refine M<|W.app (α:=GField) (i:=0) S el26 rfl rfl rfl o Rp h ?_
   intro v2 w2 H2 ad p S
   refine A<|We ?_
   refine WP.ret (Out.one rfl S rfl ?_)
   exact p
end Go.Proofs
namespace Go.Proofs
open Go Go.Eng Go.VI Go.Eng.Pure
set_option linter.unusedVariables false
set_option maxRecDepth 10000
set_option maxHeartbeats 4000000
theorem c213:FE.ok (U:=UU) Tryz.prog ⟨213,[(.sl (.st 41))],[(.sl (.st 41))],fun x=>zAi x⟩:=@fun w H az x y hw hg b hT h=>by
 obtain ⟨d,rfl,c⟩:=hT
 exact (zCn hw b x c h).mono (fun _ v K0=>⟨[v],rfl,v,rfl,K0⟩)
theorem c140:FE.ok (U:=UU) Tryz.prog ⟨140,[(.st 38)],[(.st 38)],fun x=>zJP x⟩:=mk (fcons c213 (fcons c212 anil)) (.n .e (.n .e (.n .e (.n (.n .e (.lp ⟨[⟨.sl 11,.int,none⟩,⟨.cs 1 0,(.sl (.sl .str)),some 36⟩,⟨.cs 1 1,(.sl .str),none⟩,⟨.cs 1 2,(.sl .str),none⟩,⟨.cs 1 3,.str,none⟩,⟨.cs 1 4,(.sl (.st 41)),none⟩,⟨.cs 1 5,.str,none⟩,⟨.cs 1 6,.int,none⟩,⟨.cs 1 7,.int,none⟩],some [],[]⟩ (some ⟨[⟨.cs 1 0,(.sl (.sl .str)),some 36⟩,⟨.cs 1 1,(.sl .str),none⟩,⟨.cs 1 2,(.sl .str),none⟩,⟨.cs 1 3,.str,none⟩,⟨.cs 1 4,(.sl (.st 41)),none⟩,⟨.cs 1 5,.str,none⟩,⟨.cs 1 6,.int,none⟩,⟨.cs 1 7,.int,none⟩],some [],[]⟩) false .e)) .e)))) Tryz.func140 [(6,5,[.t 0,.t 1,.t 2,.l 3 true,.l 4 true,.l 5 false,.l 6 false,.l 7 false]),(8,10,[.t 0,.t 1,.t 3,.t 4,.t 6,.t 7,.l 2 true,.t 9,.l 5 true,.l 8 true,.l 10 false,.l 11 false,.l 12 false,.l 13 false,.l 14 false])]
theorem c131:FE.ok (U:=UU) Tryz.prog ⟨131,[.str],[.str,.int,.int],fun x=>zOS x⟩:=mk (fcons c177 anil) (.e) Tryz.func131
theorem zEw {b : World} {c : Hp} (hw : Holds b c) (hG : Tryz.Gl b) (d : (List GAxis)) {f : Value} (i : Sl c f d) {r : Bool} (h : zA3 d = some r) :
    Cb Tryz.prog 11 [f] b c r:=by
  refine (c11 (xs:=(d)) (y:=r) hw (fun _ _ e=>by cases e) hG ⟨_,rfl,i⟩ h).mono ?_
  rintro _ v ⟨_,rfl,D⟩
  obtain ⟨j,rfl,k⟩:=D
  obtain rfl:j=_:=k
  exact rfl
theorem c105:FE.ok (U:=UU) Tryz.prog ⟨105,[(.sl .str),.str],[.int],fun x=>zBQ x.1 x.2⟩:=mk anil (.n .e (.n (.n .e (.lp ⟨[⟨.sl 8,.int,none⟩],some [],[]⟩ (some ⟨[],some [],[]⟩) true .e)) .e)) Tryz.func105
theorem c56:FE.ok (U:=UU) Tryz.prog ⟨56,[(.sl .str),.str],[.boo],fun x=>zAe x.1 x.2⟩:=mk (fcons c105 anil) (.e) Tryz.func56
theorem c54:FE.ok (U:=UU) Tryz.prog ⟨54,[(.sl .str)],[.str],fun x=>zFG x⟩:=mk (fcons c50 anil) (.e) Tryz.func54
theorem c247:FE.ok (U:=UU) Tryz.prog ⟨247,[.int,.str,.str],[.int],fun x=>zEe x.1 x.2.1 x.2.2⟩:=mk (fcons c242 anil) (.e) Tryz.func247
theorem c289:FE.ok (U:=UU) Tryz.prog ⟨289,[.str,.str],[.int],fun x=>zBw x.1 x.2⟩:=@fun w H az x y hw hg b hT h=>by
 obtain ⟨c,_,rfl,d,⟨f,rfl,i⟩⟩:=hT
 obtain rfl:c=_:=d
 obtain rfl:f=_:=i
 exact (zFg hw b x.1 x.2 h).mono (fun _ _ e=>⟨[_],e,_,rfl,rfl⟩)
theorem c243:FE.ok (U:=UU) Tryz.prog ⟨243,[.str],[.boo],fun x=>zB3 x⟩:=mk (fcons c287 anil) (.e) Tryz.func243
theorem c246:FE.ok (U:=UU) Tryz.prog ⟨246,[.str,.str],[.int],fun x=>zDb x.1 x.2⟩:=mk (fcons c289 (fcons c287 (fcons c243 (fcons c178 (fcons c25 anil))))) (.e) Tryz.func246
theorem c288:FE.ok (U:=UU) Tryz.prog ⟨288,[(.sl (.st 270)),(.st 270)],[.boo],fun x=>zCA x.1 x.2⟩:=mk (fcons c97 anil) (.n .e (.n (.n .e (.lp ⟨[⟨.sl 9,.int,none⟩],some [],[]⟩ (some ⟨[],some [],[]⟩) true .e)) .e)) Tryz.func288
theorem c245:FE.ok (U:=UU) Tryz.prog ⟨245,[(.st 338),(.st 338)],[.int],fun x=>zC2 x.1 x.2⟩:=mk (fcons c288 anil) (.n .e (.n .e (.n (.n .e (.lp ⟨[⟨.sl 43,.int,none⟩],some [],[]⟩ (some ⟨[],some [],[]⟩) true .e)) .e))) Tryz.func245
theorem c168:FE.ok (U:=UU) Tryz.prog ⟨168,[.int,.str,.str],[.int],fun x=>zEZ x.1 x.2.1 x.2.2⟩:=mk (fcons c247 (fcons c246 (fcons c245 (fcons c244 (fcons c239 (fcons c24 anil)))))) (.n .e (.n (.n .e (.j ⟨[],some [],[]⟩ true (.n (.n .e (.n .e (.n .e (.n .e (.n (.n .e (.j ⟨[⟨.sl 38,.boo,none⟩],some [],[]⟩ false .e)) .e))))) .e))) .e)) Tryz.func168
theorem c100:FE.ok (U:=UU) Tryz.prog ⟨100,[.int,(.sl (.st 183)),.boo,.str],[.int],fun x=>zCt x.1 x.2.1 x.2.2.1 x.2.2.2⟩:=mk (fcons c168 (fcons c97 anil)) (.n .e (.n .e (.n .e (.n (.n .e (.lp ⟨[⟨.sl 9,.int,none⟩,⟨.sl 10,.int,none⟩,⟨.sl 18,.int,none⟩],some [],[]⟩ (some ⟨[⟨.sl 9,.int,none⟩,⟨.sl 10,.int,none⟩],some [],[]⟩) false .e)) .e)))) Tryz.func100
theorem zJK {b : World} {c : Hp} (hw : Holds b c) (hG : Tryz.Gl b) (d : Int) (f : (List GPref)) (i : Bool) (j : Str) {k : Value} (l : Sl c k f) {r : Int} (h : zCt d f i j = some r) :
    Ci Tryz.prog 100 [(int d),k,(boo i),(str j)] b c r:=by
  refine (c100 (xs:=(d,f,i,j)) (y:=r) hw (fun _ _ e=>by cases e) hG ⟨_,_,rfl,rfl,⟨_,_,rfl,l,⟨_,_,rfl,rfl,⟨_,rfl,rfl⟩⟩⟩⟩ h).mono ?_
  rintro _ v ⟨_,rfl,D⟩
  obtain ⟨o,rfl,p⟩:=D
  obtain rfl:o=_:=p
  exact rfl
end Go.Proofs
namespace Go.Proofs
open Go.Eng Go.Eng.Pure
set_option linter.unusedVariables false
theorem el167:Elem Tryz.prog 167 3 1:=zEr kr
def Tryz.layIstring_ren:Go.Shelf.Ren:=⟨fun | 17=>290 | 22=>101 | 29=>169 | 30=>170 | 36=>248 | n=>n,fun | 0=>0 | 3=>3 | 4=>4 | 9=>9 | 24=>36 | n=>n,fun | n=>n⟩
theorem Tryz.layIstring:Lays2.n22 Tryz.prog Tryz.layIstring_ren:={
  mixed:=by kernel_rfl
  f17:=Tryz.func290.trans (congrArg some kr)
  f22:=Tryz.func101.trans (congrArg some kr)
  f29:=Tryz.func169.trans (congrArg some kr)
  f30:=Tryz.func170.trans (congrArg some kr)
  f36:=Tryz.func248.trans (congrArg some kr)
  t0:=Tryz.underlying0
  a0:=Tryz.isAgg0
  z0:=Tryz.sizeOf0
  v0:=Tryz.zeroValue0
  t3:=Tryz.underlying3
  a3:=Tryz.isAgg3
  z3:=Tryz.sizeOf3
  v3:=Tryz.zeroValue3
  t4:=Tryz.underlying4
  a4:=Tryz.isAgg4
  z4:=Tryz.sizeOf4
  v4:=Tryz.zeroValue4
  t9:=Tryz.underlying9
  a9:=Tryz.isAgg9
  z9:=Tryz.sizeOf9
  v9:=Tryz.zeroValue9
  t24:=Tryz.underlying36
  a24:=Tryz.isAgg36
  z24:=Tryz.sizeOf36
  v24:=Tryz.zeroValue36
  i9:=by kernel_rfl }
theorem zE6:InsCon Tryz.prog 101 9 (Value.string ⟨#[]⟩).cells 16:=⟨zFZ Tryz.func101 rfl kr,fun b n c i vb vc cs y w=>Any2.slices_Insert_string_shift Tryz.layIstring b 0 n c i vb 0 1 vc cs [y] w,fun b n c vb vc y w=>Any2.slices_Insert_string_end_room Tryz.layIstring b 0 n c vb 0 1 vc [y] w,
  fun base n c vb vc cs y w=>Any2.slices_Insert_string_end_grow Tryz.layIstring base n c vb 0 1 vc cs [y] w,fun b n c i vb vc cs y w=>Any2.slices_Insert_string_grow Tryz.layIstring b 0 n c i vb 0 1 vc cs [y] w⟩
def Tryz.layIint_ren:Go.Shelf.Ren:=⟨fun | 21=>102 | 27=>171 | 28=>172 | 35=>249 | 39=>291 | n=>n,fun | 0=>0 | 3=>3 | 4=>4 | 22=>167 | n=>n,fun | n=>n⟩
theorem Tryz.layIint:Lays2.n21 Tryz.prog Tryz.layIint_ren:={
  mixed:=by kernel_rfl
  f21:=Tryz.func102.trans (congrArg some kr)
  f27:=Tryz.func171.trans (congrArg some kr)
  f28:=Tryz.func172.trans (congrArg some kr)
  f35:=Tryz.func249.trans (congrArg some kr)
  f39:=Tryz.func291.trans (congrArg some kr)
  t0:=Tryz.underlying0
  a0:=Tryz.isAgg0
  z0:=Tryz.sizeOf0
  v0:=Tryz.zeroValue0
  t3:=Tryz.underlying3
  a3:=Tryz.isAgg3
  z3:=Tryz.sizeOf3
  v3:=Tryz.zeroValue3
  t4:=Tryz.underlying4
  a4:=Tryz.isAgg4
  z4:=Tryz.sizeOf4
  v4:=Tryz.zeroValue4
  t22:=Tryz.underlying167
  a22:=Tryz.isAgg167
  z22:=Tryz.sizeOf167
  v22:=Tryz.zeroValue167
  i3:=by kernel_rfl }
theorem zF0:InsCon Tryz.prog 102 3 (Value.int .i64 0).cells 8:=⟨zFZ Tryz.func102 rfl kr,fun b n c i vb vc cs y w=>Any2.slices_Insert_int_shift Tryz.layIint b 0 n c i vb 0 1 vc cs [y] w,fun b n c vb vc y w=>Any2.slices_Insert_int_end_room Tryz.layIint b 0 n c vb 0 1 vc [y] w,
  fun base n c vb vc cs y w=>Any2.slices_Insert_int_end_grow Tryz.layIint base n c vb 0 1 vc cs [y] w,fun b n c i vb vc cs y w=>Any2.slices_Insert_int_grow Tryz.layIint b 0 n c i vb 0 1 vc cs [y] w⟩
theorem zK4 {w0 : World} {x : Hp} (hw : Holds w0 x) (hG : Tryz.Gl w0) (ah : Int) (ai : (List GPref)) (aj : Bool) (aa : (List Str)) {ab : Value} {ac : Value} (d : Sl x ab ai) (c : Sl x ac aa) {r : (List Str)} (h : zEG ah ai aj aa = some r) :
    Con Tryz.prog 53 [(int ah),ab,(boo aj),ac] w0 x (fun H' v=>Sl H' v r):=by
  refine CM 55 Tryz.func53 hw fun S=>?_
  have bj:=d
  have bn:=c
  refine Ws<|Wg<|A<|We<|Ws<|Wg<|A<|We<|Ws<|Wg<|A<|We ?_
  refine Ws<|Ws<|Wg<|M<|Nq c<|M<|We ?_
  obtain ⟨v1,a0⟩:∃ v:Value,v=.slice none 0 0:=⟨_,rfl⟩
  have R3:Sl (α:=Str) x v1 []:=by rw [a0]; exact Sl.nil
  replace S:=St.addNilV a0 S 9 1
  obtain ⟨v4,a1⟩:∃ v:Value,v=.slice none 0 0:=⟨_,rfl⟩
  have R6:Sl (α:=Int) x v4 []:=by rw [a1]; exact Sl.nil
  replace S:=St.addNilV a1 S 3 1
  refine B h fun a2 b6 h=>WP.cut (fun f w=>∃ (a3:Hp) (ax:Value),f 9=ax∧Sl a3 ax a2∧St w0 x w a3 [.row ax 9 1 a2.length]) ?_ ?_
  · refine WP.block ?_
    refine WP.loopM (zBp ah ai aj aa) (fun s f w=>match s with | (ak,z,ap)=>∃ (H7:Hp) (p:Value) (t:Value),f 0=(int ah)∧f 1=ab∧f 2=(boo aj)∧f 9=p∧f 10=t∧f 15=ac∧f 16=(int (aa.length:Int))∧f 17=(int ap)∧Sl H7 ab ai∧Sl H7 p ak∧Sl H7 t z∧Sl H7 ac aa∧St w0 x w H7 [.row t 3 1 z.length,.row p 9 1 ak.length]) (([]:List Str),([]:List Int),0) a2 b6 ?_ ?_
    · exact ⟨x,v1,v4,rfl,rfl,rfl,(Eq.trans (b:=.slice none 0 0) rfl a0.symm),(Eq.trans (b:=.slice none 0 0) rfl a1.symm),rfl,rfl,rfl,d,R3,R6,c,S⟩
     intro s f w hI c1 k b7
     obtain ⟨ak,z,ap⟩:=s
     obtain ⟨H7,p,t,h8,h9,a6,a7,a8,a9,ba,ay,d,u,o,c,S⟩:=hI
     refine Ws<|Wg<|La' ay ba<|We<|Ws ?_
     rcases condE k with ⟨bb,k⟩ | ⟨bb,k⟩
     · refine WP.condT rfl bb<|WP.skip<|WP.s<|WP.block<|WP.s<|WP.g ?_
       refine B k fun aq b8 k=>W.idx (α:=Str) c a9 ay el36 b8 ?_
       rintro c2 _ b9 rfl
       refine Lq S b9<|A<|We<|Ws<|Wg<|M' h8<|M' h9<|M' a6<|M<|B k fun au ca k=>W.call S rfl (zJK S.holds (hG.post S.post) ah ai aj aq d ca) ?_
       rintro c3 c7 bc cb S rfl
       have ⟨d,u,o,c⟩:=U4 cb d u o c
       refine A<|We<|Ws<|Ws<|Wg<|M<|Lb<|We ?_
       rcases condE k with ⟨bd,k⟩ | ⟨bd,k⟩
       · refine WP.condT rfl bd<|WP.exit<|WP.g<|WL.w (R.add ay rfl)<|WL.m (int (wr (ap+1))) rfl<|WL.e ?_
         obtain rfl:=oi k
         exact ⟨rfl,⟨bc,p,t,h8,h9,a6,a7,a8,a9,ba,rfl,d,u,o,c,S⟩⟩
        refine WP.condF rfl bd<|WP.skip<|WP.s<|WP.g<|WL.m (t) a8<|WL.w (R.lenL (α:=Int) (xs:=z) (H:=bc) o rfl Tryz.underlying167)<|WL.a (int (z.length:Int)) rfl<|WL.e<|WP.s ?_
        refine B k fun bq cc k=>WP.cut (fun f w=>∃ (ao:Hp),f 0=(int ah)∧f 1=ab∧f 2=(boo aj)∧f 9=p∧f 10=t∧f 12=(str aq)∧f 13=(int au)∧f 14=(int bq)∧f 15=ac∧f 16=(int (aa.length:Int))∧f 17=(int ap)∧Sl ao ab ai∧Sl ao p ak∧Sl ao t z∧Sl ao ac aa∧St w0 x w ao [.row t 3 1 z.length,.row p 9 1 ak.length]) ?_ ?_
        · refine WP.block ?_
          refine WP.loopM (zCq z au) (fun s f w=>match s with | av=>∃ (ad:Hp),f 0=(int ah)∧f 1=ab∧f 2=(boo aj)∧f 9=p∧f 10=t∧f 12=(str aq)∧f 13=(int au)∧f 14=(int av)∧f 15=ac∧f 16=(int (aa.length:Int))∧f 17=(int ap)∧Sl ad ab ai∧Sl ad p ak∧Sl ad t z∧Sl ad ac aa∧St w0 x w ad [.row t 3 1 z.length,.row p 9 1 ak.length]) (z.length:Int) bq cc ?_ ?_
          · exact ⟨bc,h8,h9,a6,a7,a8,rfl,rfl,rfl,a9,ba,ay,d,u,o,c,S⟩
           intro av f w hI da am cd
           obtain ⟨ad,br,bs,bt,bu,be,bv,bf,az,bw,bx,bz,d,u,o,c,S⟩:=hI
           refine Ws<|Ws<|Wg<|M' az<|Lc<|M<|B am fun ce ae am=>WL.grp 8 [33,34,35,36,37,38,39] 40 (boo ce) ?_ ?_
           · rcases boolE (decide (0<av)) with l | l
             · replace ae:=condT ae l
               refine Gy l<|M' be<|Gy l<|M' az<|Gy l<|Lh<|Gy l<|B ae fun db cf ae=>W.idx (α:=Int) o rfl rfl el167 cf ?_
               rintro dc _ cg rfl
               refine Gy l ?_
               refine Lq S cg<|Gy l<|M' bf<|Gy l<|La<|Pt l ?_
               exact We ⟨(ob ae),ag,rfl⟩
              replace ae:=condF ae l
              refine Gn l<|Gn l<|Gn l<|Gn l<|Gn l<|Gn l<|Gn l<|Pf l ?_
              exact We ⟨(ob ae),ag,rfl⟩
            intro us
            refine We ?_
            rcases condE am with ⟨bg,am⟩ | ⟨bg,am⟩
            · refine WP.condT rfl bg<|WP.skip<|WP.block<|WP.g<|WL.m (int av) az<|WL.w (R.sub rfl rfl)<|WL.a (int (wr (av - 1))) rfl<|WL.e ?_
              obtain rfl:=oi am
              exact ⟨rfl,⟨ad,br,bs,bt,bu,be,bv,bf,rfl,bw,bx,bz,d,u,o,c,S⟩⟩
             refine WP.condF rfl bg<|WP.exit ?_
             obtain rfl:=oi am
             obtain rfl:=cd
             exact ⟨ad,br,bs,bt,bu,be,bv,bf,az,bw,bx,bz,d,u,o,c,S⟩
         rintro f w ⟨ao,ch,ci,cj,ck,cl,cm,cn,b0,co,cp,cq,d,u,o,c,S⟩
         refine Wg<|M' ck<|M' b0<|M' cm<|W.bslice (α:=Str) [(str aq)] ([aq]:List Str) S el36 rfl rfl rfl (by decide) (Go.Eng.encS ⟨rfl,rfl⟩ enc0) ?_
         intro dd de df cr an S
         have ⟨d,u,o,c⟩:=U4 cr d u o c
         refine B k fun dh cs k=>W.insertRow (i:=2) (j:=0) zE6 rfl (by decide) hw S (by decide) rfl rfl rfl rfl rfl u an cs ?_
         intro ct di dj b1 b2 aw S
         have d:=bj.up b1
         have o:=b2 (show (2:Nat)≠1 from by decide) rfl o
         have c:=bn.up b1
         have an:=b2 (show (2:Nat)≠0 from by decide) rfl an
         refine M' cl<|M' b0<|M' cn<|W.bslice (α:=Int) [(int au)] ([au]:List Int) S el167 rfl rfl rfl (by decide) (Go.Eng.encS ⟨rfl,rfl⟩ enc0) ?_
         intro dk dl dm cu bh S
         have ⟨d,o,c,an,aw⟩:=U5 cu d o c an aw
         refine B k fun dn cv k=>W.insertRow (i:=2) (j:=0) zF0 rfl (by decide) hw S (by decide) rfl rfl rfl rfl rfl o bh cv ?_
         intro cw dp cx b3 bi cy S
         have d:=bj.up b3
         have c:=bn.up b3
         have an:=bi (show (2:Nat)≠1 from by decide) rfl an
         have aw:=bi (show (2:Nat)≠3 from by decide) rfl aw
         have bh:=bi (show (2:Nat)≠0 from by decide) rfl bh
         refine A<|A<|We<|Wg<|Lg' cq rfl<|M<|We ?_
         obtain rfl:=oi k
         exact ⟨rfl,⟨cx,ct,cw,ch,ci,cj,rfl,rfl,co,cp,rfl,d,aw,cy,c,(S.pk [2,3])⟩⟩
      refine WP.condF rfl bb<|WP.exit ?_
      obtain rfl:=oi k
      obtain rfl:=b7
      exact ⟨H7,p,a7,u,(S.pk [1])⟩
   rintro f w ⟨a3,ax,cz,c0,S⟩
   refine Ws<|Wg<|M' cz<|A<|We ?_
   exact WP.ret (Rl h S c0)
end Go.Proofs
namespace Go.Proofs
open Go Go.Eng Go.VI Go.Eng.Pure
set_option linter.unusedVariables false
set_option maxRecDepth 10000
set_option maxHeartbeats 4000000
theorem c53:FE.ok (U:=UU) Tryz.prog ⟨53,[.int,(.sl (.st 183)),.boo,(.sl .str)],[(.sl .str)],fun x=>zEG x.1 x.2.1 x.2.2.1 x.2.2.2⟩:=@fun w H az x y hw hg b hT h=>by
 obtain ⟨c,_,rfl,d,⟨l,_,rfl,f,⟨i,_,rfl,j,⟨o,rfl,k⟩⟩⟩⟩:=hT
 obtain rfl:c=_:=d
 obtain rfl:i=_:=j
 exact (zK4 hw b x.1 x.2.1 x.2.2.1 x.2.2.2 f k h).mono (fun _ v K0=>⟨[v],rfl,v,rfl,K0⟩)
noncomputable def w164 {l:List (GE UU)} (h:GamOk Tryz.prog (gal l)):WE Tryz.prog UU:=wJ 164 h (.n .e (.n (.n .e (.lp ⟨[⟨.sl 8,.int,none⟩],some [],[]⟩ (some ⟨[],some [],[]⟩) true .e)) .e)) [.int] [] Tryz.func164
theorem zFY {b : World} {d : Hp} (hw : Holds b d) (hG : Tryz.Gl b) (c : Str) {r : (GMediaType × Bool)} (h : zAn c = some r) :
    Con Tryz.prog 239 [(str c)] b d (fun H' v=>∃ f:Value,v=(.tuple ⟨[(agg [(str r.1.fType),(str r.1.fSub),f]),(boo r.2)]⟩)∧Sl H' f r.1.fParams):=by
  refine (c239 (xs:=(c)) (y:=r) hw (fun _ _ e=>by cases e) hG ⟨_,rfl,rfl⟩ h).mono ?_
  rintro _ v ⟨_,rfl,D⟩
  obtain ⟨k,_,rfl,K0,⟨i,rfl,j⟩⟩:=D
  obtain ⟨_,rfl,⟨_,rfl,K0_0⟩⟩:=K0
  obtain rfl:i=_:=j
  exact ⟨_,rfl,K0_0⟩
end Go.Proofs
namespace Go.Proofs
open Go.Eng Go.Eng.Pure
set_option linter.unusedVariables false
theorem zQw:fld Tryz.prog 338 0=some 0:=by kernel_rfl
instance:Fld Tryz.prog 338 0 0:=⟨zQw⟩
theorem zQb:fld Tryz.prog 338 1=some 1:=by kernel_rfl
instance:Fld Tryz.prog 338 1 1:=⟨zQb⟩
theorem zKX:fld Tryz.prog 270 1=some 1:=by kernel_rfl
instance:Fld Tryz.prog 270 1 1:=⟨zKX⟩
end Go.Proofs
namespace Go.Proofs
open Go Go.Eng Go.VI Go.Eng.Pure
set_option linter.unusedVariables false
set_option maxRecDepth 10000
set_option maxHeartbeats 4000000
theorem zEs {b : World} {d : Hp} (hw : Holds b d) (hG : Tryz.Gl b) (c : Str) {r : Bool} (h : zAW c = some r) :
    Cb Tryz.prog 24 [(str c)] b d r:=by
  refine (c24 (xs:=(c)) (y:=r) hw (fun _ _ e=>by cases e) hG ⟨_,rfl,rfl⟩ h).mono ?_
  rintro _ v ⟨_,rfl,D⟩
  obtain ⟨f,rfl,i⟩:=D
  obtain rfl:f=_:=i
  exact rfl
theorem c49:FE.ok (U:=UU) Tryz.prog ⟨49,[.str],[.str],fun x=>zEP x⟩:=mk anil (.n .e (.n .e (.n (.n .e (.lp ⟨[⟨.sl 3,(.sl .byt),some 5⟩,⟨.sl 8,.int,none⟩],some [],[]⟩ (some ⟨[⟨.sl 3,(.sl .byt),some 5⟩],some [],[]⟩) false (.n .e (.n .e (.n (.n (.n .e (.n (.n .e (.j ⟨[⟨.sl 3,(.sl .byt),some 5⟩],some [],[]⟩ false .e)) .e)) .e) .e))))) .e))) Tryz.func49
theorem zJa {b : World} {d : Hp} (hw : Holds b d) (hG : Tryz.Gl b) (c : Str) {r : Str} (h : zEP c = some r) :
    Cs Tryz.prog 49 [(str c)] b d r:=by
  refine (c49 (xs:=(c)) (y:=r) hw (fun _ _ e=>by cases e) hG ⟨_,rfl,rfl⟩ h).mono ?_
  rintro _ v ⟨_,rfl,D⟩
  obtain ⟨f,rfl,i⟩:=D
  obtain rfl:f=_:=i
  exact rfl
end Go.Proofs
namespace Go.Proofs
open Go.Eng Go.Eng.Pure
set_option linter.unusedVariables false
theorem zJD {k : World} {c : Hp} (hw : Holds k c) (hG : Tryz.Gl k) (aq : Str) (ae : (List GParam)) {al : Value} (l : Sl c al ae) {r : Str} (h : zEi aq ae = some r) :
    Cs Tryz.prog 286 [(str aq),al] k c r:=by
  refine CM 33 Tryz.func286 hw fun S=>?_
  refine Ws<|Wg<|A<|We<|Ws<|Wg ?_
  refine W.alloc [(.pointer none),(.slice none 0 0)] S zer69 ?_
  intro j w2 S
  refine We<|Ws<|Wg<|M ?_
  obtain ⟨v3,au⟩:∃ v:Value,v=.slice none 0 0:=⟨_,rfl⟩
  have R5:Sl (α:=UInt8) c v3 []:=by rw [au]; exact Sl.nil
  replace S:=(show ∀ {w:World},St k c w c [.box j 69 [(.pointer none),(.slice none 0 0)]]→St k c w c [.box j 69 [(.pointer none),v3]] from fun S=>by rw [au]; exact S) S
  replace S:=St.addNilV au S 5 1
  replace S:=S.front 1 rfl
  replace S:St k c _ c [.box j 69 [(.pointer none),v3],.row v3 5 1 ([]:List UInt8).length]:=S
  refine B h fun r6 be h=>W.callS rfl (zAH hG aq ([]:List UInt8) S R5 (Or.inl rfl) be) ?_
  rintro v7 w8 H9 cj bf S ⟨ax,af,rfl,rfl,bg,bh⟩
  replace S:St k c _ H9 [.box j 69 [ax,af],.row af 5 1 r6.2.2.length]:=S
  replace S:=S.front 1 rfl
  replace S:St k c _ H9 [.row af 5 1 r6.2.2.length,.box j 69 [ax,af]]:=S
  have l:=l.up bf
  refine We<|Ws<|Ws<|Wg<|M<|Nq l<|M<|We<|B h fun ah bi h=>WP.cut (fun f w=>∃ (an:Hp) (x:Value) (t:Value),f 5=(ptr j 0)∧(x=Value.pointer none∨x=ptr j 0)∧Sl an t ah∧St k c w an [.row t 5 1 ah.length,.box j 69 [x,t]]) ?_ ?_
  · refine WP.block ?_
    refine WP.loopM (zCD ae) (fun s f w=>match s with | (a6,ai)=>∃ (z:Hp) (aa:Value) (u:Value),f 5=(ptr j 0)∧f 10=al∧f 11=(int (ae.length:Int))∧f 12=(int a6)∧Sl z al ae∧(aa=Value.pointer none∨aa=ptr j 0)∧Sl z u ai∧St k c w z [.row u 5 1 ai.length,.box j 69 [aa,u]]) (0,r6.2.2) ah bi ?_ ?_
    · exact ⟨H9,ax,af,rfl,rfl,rfl,rfl,l,bg,bh,S⟩
     intro s f w hI ck d bj
     obtain ⟨a6,ai⟩:=s
     obtain ⟨z,aa,u,ab,ay,az,ao,l,a7,a8,S⟩:=hI
     refine Ws<|Wg<|La' ao az<|We<|Ws ?_
     rcases condE d with ⟨a0,d⟩ | ⟨a0,d⟩
     · refine WP.condT rfl a0<|WP.skip<|WP.s<|WP.block<|WP.s<|WP.g ?_
       refine B d fun b bn d=>W.idx (α:=GParam) l ay ao el266 bn ?_
       rintro cl _ bo rfl
       refine WL.w (R.loadHN (vs:=[(str b.fName),(str b.fValue)]) S rfl bo zJx rfl rfl) ?_
       refine W.alloc [(str []),(str [])] S zQ9 ?_
       intro o cm S
       refine W.store (i:=0) [(str b.fName),(str b.fValue)] S rfl rfl rfl zJx rfl rfl (Nat.le_of_ble_eq_true rfl) rfl ?_
       intro cn S
       refine We<|Ws<|Wg<|Fb ?_
       refine Lo 0 S<|B d fun co bp d=>Je bp<|B d fun bq br d=>Je br ?_
       replace S:=S.front 1 rfl
       replace S:=S.front 2 rfl
       replace S:St k c _ z [.box j 69 [aa,u],.row u 5 1 ai.length,.box o 270 [(str b.fName),(str b.fValue)]]:=S
       refine B d fun ac bs d=>W.callS (mapC ab (mapC rfl mapN)) (zAH hG bq ai S a8 a7 bs) ?_
       rintro cp cq a9 cr bt S ⟨ap,p,rfl,rfl,ba,ad⟩
       replace S:St k c _ a9 [.box j 69 [ap,p],.row p 5 1 ac.2.2.length,.box o 270 [(str b.fName),(str b.fValue)]]:=S
       replace S:=S.front 1 rfl
       replace S:=S.front 2 rfl
       replace S:St k c _ a9 [.box o 270 [(str b.fName),(str b.fValue)],.row p 5 1 ac.2.2.length,.box j 69 [ap,p]]:=S
       have l:=l.up bt
       refine We<|Ws<|Wg<|Fb ?_
       refine Lo 0 S<|B d fun cs bu d=>W.call S rfl (zEs S.holds (hG.post S.post) b.fValue bu) ?_
       rintro ct cu bv bw S rfl
       have ⟨l,ad⟩:=U2 bw l ad
       refine We ?_
       rcases condE d with ⟨a1,d⟩ | ⟨a1,d⟩
       · refine WP.condT rfl a1<|WP.g<|WL.w (R.fieldB rfl zKX)<|WL.w (R.loadB (i:=0) (v:=str b.fValue) S rfl rfl lay9 rfl) ?_
         replace S:=S.front 1 rfl
         replace S:=S.front 2 rfl
         replace S:St k c _ bv [.box j 69 [ap,p],.row p 5 1 ac.2.2.length,.box o 270 [(str b.fName),(str b.fValue)]]:=S
         refine B d fun bb bx d=>W.callS (mapC ab (mapC rfl mapN)) (zAH hG b.fValue ac.2.2 S ad ba bx) ?_
         rintro cv cw a2 cx bz S ⟨a3,aj,rfl,rfl,b0,b2⟩
         replace S:St k c _ a2 [.box j 69 [a3,aj],.row aj 5 1 bb.2.2.length,.box o 270 [(str b.fName),(str b.fValue)]]:=S
         replace S:=S.front 1 rfl
         replace S:=S.front 2 rfl
         replace S:St k c _ a2 [.box o 270 [(str b.fName),(str b.fValue)],.row aj 5 1 bb.2.2.length,.box j 69 [a3,aj]]:=S
         have l:=l.up bz
         refine We<|Wg<|Lg' ao rfl<|M<|We ?_
         obtain rfl:=oi d
         exact ⟨rfl,⟨a2,a3,aj,ab,ay,az,rfl,l,b0,b2,(S.pk [1,2])⟩⟩
        refine WP.condF rfl a1<|WP.g<|WL.w (R.fieldB rfl zKX)<|WL.w (R.loadB (i:=0) (v:=str b.fValue) S rfl rfl lay9 rfl) ?_
        refine B d fun b3 b4 d=>W.call S rfl (zJa S.holds (hG.post S.post) b.fValue b4) ?_
        rintro cy cz b5 b6 S rfl
        have ⟨l,ad⟩:=U2 b6 l ad
        replace S:=S.front 1 rfl
        replace S:=S.front 2 rfl
        replace S:St k c _ b5 [.box j 69 [ap,p],.row p 5 1 ac.2.2.length,.box o 270 [(str b.fName),(str b.fValue)]]:=S
        refine B d fun bc b7 d=>W.callS (mapC ab (mapC rfl mapN)) (zAH hG b3 ac.2.2 S ad ba b7) ?_
        rintro c0 c1 a4 c2 b8 S ⟨a5,ak,rfl,rfl,b9,ca⟩
        replace S:St k c _ a4 [.box j 69 [a5,ak],.row ak 5 1 bc.2.2.length,.box o 270 [(str b.fName),(str b.fValue)]]:=S
        replace S:=S.front 1 rfl
        replace S:=S.front 2 rfl
        replace S:St k c _ a4 [.box o 270 [(str b.fName),(str b.fValue)],.row ak 5 1 bc.2.2.length,.box j 69 [a5,ak]]:=S
        have l:=l.up b8
        refine We<|Wg<|Lg' ao rfl<|M<|We ?_
        obtain rfl:=oi d
        exact ⟨rfl,⟨a4,a5,ak,ab,ay,az,rfl,l,b9,ca,(S.pk [1,2])⟩⟩
      refine WP.condF rfl a0<|WP.exit ?_
      obtain rfl:=oi d
      obtain rfl:=bj
      exact ⟨z,aa,u,ab,a7,a8,S⟩
   rintro f w ⟨an,x,t,cb,cc,cd,S⟩
   refine Ws<|Wg ?_
   replace S:=S.front 1 rfl
   replace S:St k c _ an [.box j 69 [x,t],.row t 5 1 ah.length]:=S
   refine B h fun c3 ce h=>W.callS (mapC cb mapN) (zAq hG ah S cd cc ce) ?_
   rintro c7 da cf db dc S ⟨rfl,rfl⟩
   replace S:St k c _ cf [.box j 69 [x,t]]:=S
   refine A<|We ?_
   exact WP.ret (Rs h S)
end Go.Proofs
