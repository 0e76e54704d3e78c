/- A part. -/
import Derived.Test.YtffangblkofjdaaGreatDoorEng38
import Derived.Test.YtffangblkofjdaaGreatDoorEng35
import Derived.Test.YtffangblkofjdaaGreatDoorGenM2
namespace Go.Proofs
set_option maxHeartbeats 4000000
set_option maxRecDepth 10000
open Go Go.Eng Go.VI Go.Eng.Pure
set_option linter.unusedVariables false
set_option maxRecDepth 10000
set_option maxHeartbeats 4000000
theorem zHM {b:World} {f:Hp} (hw:Holds b f) (hG:Tryz.Gl b) (c:Str) (d:Str) {r:Bool} (h:zA0 c d=some r) :
  Cb Tryz.prog 97 [(str c),(str d)] b f r:=by
 refine (c97 (xs:=(c,d)) (y:=r) hw (fun _ _ e=>by cases e) hG ⟨_,_,rfl,rfl,⟨_,rfl,rfl⟩⟩ h).mono ?_
 rintro _ v ⟨_,rfl,D⟩
 obtain ⟨i,rfl,j⟩:=D
 obtain rfl:i=_:=j
 exact rfl
theorem c272:FE.ok (U:=UU) Tryz.prog ⟨272,[(.st 41)],[.str],fun x=>zEy x⟩:=mk anil (.e) Tryz.func272
theorem c269:FE.ok (U:=UU) Tryz.prog ⟨269,[(.st 41)],[.boo],fun x=>zEa x⟩:=mk (fcons c272 (fcons c200 (fcons c174 (fcons c24 anil)))) (.e) Tryz.func269
theorem c208:FE.ok (U:=UU) Tryz.prog ⟨208,[(.st 41)],[.str],fun x=>zDz x⟩:=mk (fcons c272 (fcons c269 anil)) (.e) Tryz.func208
theorem zHA {c:World} {d:Hp} (hw:Holds c d) (hG:Tryz.Gl c) (b:GField) {r:Str} (h:zDz b=some r) :
  Cs Tryz.prog 208 [(agg [(str b.fName),(str b.fValue)])] c d r:=by
 refine (c208 (xs:=(b)) (y:=r) hw (fun _ _ e=>by cases e) hG ⟨_,rfl,⟨_,rfl,rfl⟩⟩ h).mono ?_
 rintro _ v ⟨_,rfl,D⟩
 obtain ⟨f,rfl,i⟩:=D
 obtain rfl:f=_:=i
 exact rfl
end Go.Proofs
namespace Go.Proofs
open Go.Eng Go.Eng.Pure
set_option linter.unusedVariables false
theorem zBi {d ws:World} {f Hs:Hp} {i:List Ent} (hG:Tryz.Gl d) (s0_buf:(List UInt8)) {b:Value} {va0:Value} {c:Nat} (S:St d f ws Hs (.box c 69 [va0,b] :: .row b 5 1 s0_buf.length :: i)) (R0_1:Sl Hs b s0_buf) (j:va0=Value.pointer none∨va0=ptr c 0) {r:Int} (h:zBG s0_buf=some r) :
  ConS Tryz.prog 205 [(ptr c 0)] d f ws Hs i (fun H' v L'=>L'=[.box c 69 [va0,b],.row b 5 1 s0_buf.length]∧v=(int r)):=by
 refine ConS.mk (N:=8) Tryz.func205 rfl rfl kr rfl<|Ws<|Wg<|A<|We<|Ws<|Wg<|M<|Nn<|Fb ?_
 refine Lo 0 S<|Nq R0_1 ?_
 refine A<|We ?_
 obtain rfl:=oi h
 refine WP.ret (OutS.one (L':=[.box c 69 [va0,b],.row b 5 1 s0_buf.length]) rfl lr S rfl ?_)
 exact ⟨rfl,rfl⟩
theorem zI5 {b:World} {c:Hp} (hw:Holds b c) (hG:Tryz.Gl b) (d:Int) {r:Str} (h:strconv_Itoa d=some r) :
  Cs Tryz.prog 194 [(int d)] b c r :=
 zR4 Tryz.func194 rfl kr hw hG.pow10 h Tryz.strconv_Itoa
end Go.Proofs
namespace Go.Proofs
open Go Go.Eng Go.VI Go.Eng.Pure
set_option linter.unusedVariables false
set_option maxRecDepth 10000
set_option maxHeartbeats 4000000
theorem c194:FE.ok (U:=UU) Tryz.prog ⟨194,[.int],[.str],fun x=>strconv_Itoa x⟩:=@fun w H az x y hw hg b hT h=>by
 obtain ⟨c,rfl,d⟩:=hT
 obtain rfl:c=_:=d
 exact (zI5 hw b x h).mono (fun _ _ e=>⟨[_],e,_,rfl,rfl⟩)
theorem c124:FE.ok (U:=UU) Tryz.prog ⟨124,[.int],[.str],fun x=>zDB x⟩:=mk (fcons c194 anil) (.e) Tryz.func124
theorem zFl {b:World} {d:Hp} (hw:Holds b d) (hG:Tryz.Gl b) (c:Int) {r:Str} (h:zDB c=some r) :
  Cs Tryz.prog 124 [(int c)] b d r:=by
 refine (c124 (xs:=(c)) (y:=r) hw (fun _ _ e=>by cases e) hG ⟨_,rfl,rfl⟩ h).mono ?_
 rintro _ v ⟨_,rfl,D⟩
 obtain ⟨f,rfl,i⟩:=D
 obtain rfl:f=_:=i
 exact rfl
end Go.Proofs
namespace Go.Proofs
open Go.Eng Go.Eng.Pure
set_option linter.unusedVariables false
theorem ceo5:Tryz.prog.cellsOf 5=1:=by kernel_rfl
theorem zAr {o ws:World} {p Hs:Hp} {t:List Ent} (hG:Tryz.Gl o) (s0_buf:(List UInt8)) {d:Value} {va0:Value} {c:Nat} (S:St o p ws Hs (.box c 69 [va0,d] :: .row d 5 1 s0_buf.length :: t)) (R0_1:Sl Hs d s0_buf) (u:va0=Value.pointer none∨va0=ptr c 0) {r:Str} (h:zAa s0_buf=some r) :
  ConS Tryz.prog 30 [(ptr c 0)] o p ws Hs t (fun H' v L'=>L'=[.box c 69 [va0,d]]∧v=(str r)):=by
 refine ConS.mk (N:=14) Tryz.func30 rfl rfl kr rfl<|Ws<|Wg<|A<|We<|Ws<|WP.draw kr 12 rfl (bm 12 0) rfl ?_
 have S:=S.drew
 refine At_ 0 12 1 rfl (fun _=>(R.mv (v:=ptr c 0) rfl)) ?_
 refine At_ 5 12 33 rfl (fun _=>(R.mv (v:=ptr c 0) rfl)) ?_
 refine WA.two (i:=1) (j:=6) (bm 12 35) (bm 12 97) rfl rfl kr rfl rfl ?_ ?_
 ·refine Nn<|We ?_
  refine At_ 2 12 39 rfl (fun _=>(R.fieldB rfl zF1)) ?_
  refine WA.two (i:=3) (j:=6) (bm 12 47) (bm 12 103) rfl rfl kr rfl rfl ?_ ?_
  ·refine Lo 0 S<|We ?_
   refine WA.two (i:=4) (j:=6) (bm 12 63) (bm 12 111) rfl rfl kr rfl rfl ?_ ?_
   ·refine W.sliceData (i:=1) S rfl rfl Tryz.underlying116 ?_
    intro f k b S
    refine We<|WA.one (i:=6) (bm 12 127) rfl kr rfl<|Nn<|We ?_
    refine At_ 7 12 255 rfl (fun _=>(R.fieldB rfl zF1))<|WA.one (i:=8) (bm 12 511) rfl kr rfl ?_
    refine Lo 0 S<|We ?_
    refine At_ 9 12 1023 rfl (fun _=>(R.lenL (α:=UInt8) (xs:=s0_buf) (H:=Hs) R0_1 rfl Tryz.underlying67))<|WA.one (i:=10) (bm 12 2047) rfl kr rfl ?_
    refine W.strOf (i:=1) S rfl R0_1 b rfl rfl Tryz.underlying116 ceo5 ?_
    intro l S
    refine We ?_
    refine At_ 11 12 4095 rfl (fun _=>(R.as (v:=str s0_buf) rfl))<|WA.done kr ?_
    obtain rfl:=oi h
    refine WP.ret (OutS.one (L':=[.box c 69 [va0,d]]) rfl lr S rfl ?_)
    exact ⟨rfl,rfl⟩
   refine Nn<|We ?_
   refine At_ 7 12 239 rfl (fun _=>(R.fieldB rfl zF1)) ?_
   refine WA.two (i:=4) (j:=8) (bm 12 255) (bm 12 495) rfl rfl kr rfl rfl ?_ ?_
   ·refine W.sliceData (i:=1) S rfl rfl Tryz.underlying116 ?_
    intro f k b S
    refine We<|WA.one (i:=8) (bm 12 511) rfl kr rfl ?_
    refine Lo 0 S<|We ?_
    refine At_ 9 12 1023 rfl (fun _=>(R.lenL (α:=UInt8) (xs:=s0_buf) (H:=Hs) R0_1 rfl Tryz.underlying67))<|WA.one (i:=10) (bm 12 2047) rfl kr rfl ?_
    refine W.strOf (i:=1) S rfl R0_1 b rfl rfl Tryz.underlying116 ceo5 ?_
    intro l S
    refine We ?_
    refine At_ 11 12 4095 rfl (fun _=>(R.as (v:=str s0_buf) rfl))<|WA.done kr ?_
    obtain rfl:=oi h
    refine WP.ret (OutS.one (L':=[.box c 69 [va0,d]]) rfl lr S rfl ?_)
    exact ⟨rfl,rfl⟩
   refine Lo 0 S<|We ?_
   refine At_ 9 12 1007 rfl (fun _=>(R.lenL (α:=UInt8) (xs:=s0_buf) (H:=Hs) R0_1 rfl Tryz.underlying67))<|WA.one (i:=4) (bm 12 1023) rfl kr rfl<|W.sliceData (i:=1) S rfl rfl Tryz.underlying116 ?_
   intro f k b S
   refine We<|WA.one (i:=10) (bm 12 2047) rfl kr rfl ?_
   refine W.strOf (i:=1) S rfl R0_1 b rfl rfl Tryz.underlying116 ceo5 ?_
   intro l S
   refine We ?_
   refine At_ 11 12 4095 rfl (fun _=>(R.as (v:=str s0_buf) rfl))<|WA.done kr ?_
   obtain rfl:=oi h
   refine WP.ret (OutS.one (L':=[.box c 69 [va0,d]]) rfl lr S rfl ?_)
   exact ⟨rfl,rfl⟩
  refine Nn<|We ?_
  refine At_ 7 12 231 rfl (fun _=>(R.fieldB rfl zF1)) ?_
  refine WA.two (i:=3) (j:=8) (bm 12 239) (bm 12 487) rfl rfl kr rfl rfl ?_ ?_
  ·refine Lo 0 S<|We ?_
   refine WA.two (i:=4) (j:=8) (bm 12 255) (bm 12 495) rfl rfl kr rfl rfl ?_ ?_
   ·refine W.sliceData (i:=1) S rfl rfl Tryz.underlying116 ?_
    intro f k b S
    refine We<|WA.one (i:=8) (bm 12 511) rfl kr rfl ?_
    refine Lo 0 S<|We ?_
    refine At_ 9 12 1023 rfl (fun _=>(R.lenL (α:=UInt8) (xs:=s0_buf) (H:=Hs) R0_1 rfl Tryz.underlying67))<|WA.one (i:=10) (bm 12 2047) rfl kr rfl ?_
    refine W.strOf (i:=1) S rfl R0_1 b rfl rfl Tryz.underlying116 ceo5 ?_
    intro l S
    refine We ?_
    refine At_ 11 12 4095 rfl (fun _=>(R.as (v:=str s0_buf) rfl))<|WA.done kr ?_
    obtain rfl:=oi h
    refine WP.ret (OutS.one (L':=[.box c 69 [va0,d]]) rfl lr S rfl ?_)
    exact ⟨rfl,rfl⟩
   refine Lo 0 S<|We ?_
   refine At_ 9 12 1007 rfl (fun _=>(R.lenL (α:=UInt8) (xs:=s0_buf) (H:=Hs) R0_1 rfl Tryz.underlying67))<|WA.one (i:=4) (bm 12 1023) rfl kr rfl<|W.sliceData (i:=1) S rfl rfl Tryz.underlying116 ?_
   intro f k b S
   refine We<|WA.one (i:=10) (bm 12 2047) rfl kr rfl ?_
   refine W.strOf (i:=1) S rfl R0_1 b rfl rfl Tryz.underlying116 ceo5 ?_
   intro l S
   refine We ?_
   refine At_ 11 12 4095 rfl (fun _=>(R.as (v:=str s0_buf) rfl))<|WA.done kr ?_
   obtain rfl:=oi h
   refine WP.ret (OutS.one (L':=[.box c 69 [va0,d]]) rfl lr S rfl ?_)
   exact ⟨rfl,rfl⟩
  refine Lo 0 S<|We ?_
  refine At_ 9 12 999 rfl (fun _=>(R.lenL (α:=UInt8) (xs:=s0_buf) (H:=Hs) R0_1 rfl Tryz.underlying67))<|WA.one (i:=3) (bm 12 1007) rfl kr rfl ?_
  refine Lo 0 S<|We<|WA.one (i:=4) (bm 12 1023) rfl kr rfl<|W.sliceData (i:=1) S rfl rfl Tryz.underlying116 ?_
  intro f k b S
  refine We<|WA.one (i:=10) (bm 12 2047) rfl kr rfl ?_
  refine W.strOf (i:=1) S rfl R0_1 b rfl rfl Tryz.underlying116 ceo5 ?_
  intro l S
  refine We ?_
  refine At_ 11 12 4095 rfl (fun _=>(R.as (v:=str s0_buf) rfl))<|WA.done kr ?_
  obtain rfl:=oi h
  refine WP.ret (OutS.one (L':=[.box c 69 [va0,d]]) rfl lr S rfl ?_)
  exact ⟨rfl,rfl⟩
 refine Nn<|We ?_
 refine At_ 7 12 225 rfl (fun _=>(R.fieldB rfl zF1)) ?_
 refine WA.two (i:=1) (j:=8) (bm 12 227) (bm 12 481) rfl rfl kr rfl rfl ?_ ?_
 ·refine Nn<|We ?_
  refine At_ 2 12 231 rfl (fun _=>(R.fieldB rfl zF1)) ?_
  refine WA.two (i:=3) (j:=8) (bm 12 239) (bm 12 487) rfl rfl kr rfl rfl ?_ ?_
  ·refine Lo 0 S<|We ?_
   refine WA.two (i:=4) (j:=8) (bm 12 255) (bm 12 495) rfl rfl kr rfl rfl ?_ ?_
   ·refine W.sliceData (i:=1) S rfl rfl Tryz.underlying116 ?_
    intro f k b S
    refine We<|WA.one (i:=8) (bm 12 511) rfl kr rfl ?_
    refine Lo 0 S<|We ?_
    refine At_ 9 12 1023 rfl (fun _=>(R.lenL (α:=UInt8) (xs:=s0_buf) (H:=Hs) R0_1 rfl Tryz.underlying67))<|WA.one (i:=10) (bm 12 2047) rfl kr rfl ?_
    refine W.strOf (i:=1) S rfl R0_1 b rfl rfl Tryz.underlying116 ceo5 ?_
    intro l S
    refine We ?_
    refine At_ 11 12 4095 rfl (fun _=>(R.as (v:=str s0_buf) rfl))<|WA.done kr ?_
    obtain rfl:=oi h
    refine WP.ret (OutS.one (L':=[.box c 69 [va0,d]]) rfl lr S rfl ?_)
    exact ⟨rfl,rfl⟩
   refine Lo 0 S<|We ?_
   refine At_ 9 12 1007 rfl (fun _=>(R.lenL (α:=UInt8) (xs:=s0_buf) (H:=Hs) R0_1 rfl Tryz.underlying67))<|WA.one (i:=4) (bm 12 1023) rfl kr rfl<|W.sliceData (i:=1) S rfl rfl Tryz.underlying116 ?_
   intro f k b S
   refine We<|WA.one (i:=10) (bm 12 2047) rfl kr rfl ?_
   refine W.strOf (i:=1) S rfl R0_1 b rfl rfl Tryz.underlying116 ceo5 ?_
   intro l S
   refine We ?_
   refine At_ 11 12 4095 rfl (fun _=>(R.as (v:=str s0_buf) rfl))<|WA.done kr ?_
   obtain rfl:=oi h
   refine WP.ret (OutS.one (L':=[.box c 69 [va0,d]]) rfl lr S rfl ?_)
   exact ⟨rfl,rfl⟩
  refine Lo 0 S<|We ?_
  refine At_ 9 12 999 rfl (fun _=>(R.lenL (α:=UInt8) (xs:=s0_buf) (H:=Hs) R0_1 rfl Tryz.underlying67))<|WA.one (i:=3) (bm 12 1007) rfl kr rfl ?_
  refine Lo 0 S<|We<|WA.one (i:=4) (bm 12 1023) rfl kr rfl<|W.sliceData (i:=1) S rfl rfl Tryz.underlying116 ?_
  intro f k b S
  refine We<|WA.one (i:=10) (bm 12 2047) rfl kr rfl ?_
  refine W.strOf (i:=1) S rfl R0_1 b rfl rfl Tryz.underlying116 ceo5 ?_
  intro l S
  refine We ?_
  refine At_ 11 12 4095 rfl (fun _=>(R.as (v:=str s0_buf) rfl))<|WA.done kr ?_
  obtain rfl:=oi h
  refine WP.ret (OutS.one (L':=[.box c 69 [va0,d]]) rfl lr S rfl ?_)
  exact ⟨rfl,rfl⟩
 refine Lo 0 S<|We ?_
 refine At_ 9 12 993 rfl (fun _=>(R.lenL (α:=UInt8) (xs:=s0_buf) (H:=Hs) R0_1 rfl Tryz.underlying67))<|WA.one (i:=1) (bm 12 995) rfl kr rfl<|Nn<|We ?_
 refine At_ 2 12 999 rfl (fun _=>(R.fieldB rfl zF1))<|WA.one (i:=3) (bm 12 1007) rfl kr rfl ?_
 refine Lo 0 S<|We<|WA.one (i:=4) (bm 12 1023) rfl kr rfl<|W.sliceData (i:=1) S rfl rfl Tryz.underlying116 ?_
 intro f k b S
 refine We<|WA.one (i:=10) (bm 12 2047) rfl kr rfl ?_
 refine W.strOf (i:=1) S rfl R0_1 b rfl rfl Tryz.underlying116 ceo5 ?_
 intro l S
 refine We ?_
 refine At_ 11 12 4095 rfl (fun _=>(R.as (v:=str s0_buf) rfl))<|WA.done kr ?_
 obtain rfl:=oi h
 refine WP.ret (OutS.one (L':=[.box c 69 [va0,d]]) rfl lr S rfl ?_)
 exact ⟨rfl,rfl⟩
theorem zIK {d:World} {b:Hp} (hw:Holds d b) (hG:Tryz.Gl d) (b4:Str) (am:(List GField)) (an:Int) (ao:Str) {az:Value} (l:Sl b az am) {r:Str} (h:zDg b4 am an ao=some r) :
  Cs Tryz.prog 137 [(str b4),az,(int an),(str ao)] d b r:=by
 refine CM 64 Tryz.func137 hw fun S=>?_
 refine Ws<|Wg<|A<|We<|Ws<|Ws<|Wg<|M<|Na<|We ?_
 rcases condE h with ⟨a9,h⟩ | ⟨a9,h⟩
 ·refine CT a9<|Ws<|Wg<|A<|We ?_
  exact WP.ret (Rs h S)
 refine CF a9<|Wk<|Ws<|Wg ?_
 refine W.alloc [(.pointer none),(.slice none 0 0)] S zer69 ?_
 intro c w3 S
 refine We<|Ws<|Wg<|M<|B h fun s4 ci h=>Je ci ?_
 obtain ⟨v5,ba⟩:∃ v:Value,v=.slice none 0 0:=⟨_,rfl⟩
 have R7:Sl (α:=UInt8) b v5 []:=by rw [ba]; exact Sl.nil
 replace S:=(show ∀ {w:World},St d b w b [.box c 69 [(.pointer none),(.slice none 0 0)]]→St d b w b [.box c 69 [(.pointer none),v5]] from fun S=>by rw [ba]; exact S) S
 replace S:=St.addNilV ba S 5 1
 replace S:=S.front 1 rfl
 replace S:St d b _ b [.box c 69 [(.pointer none),v5],.row v5 5 1 ([]:List UInt8).length]:=S
 refine B h fun r8 ck h=>W.callS rfl (zAH hG s4 ([]:List UInt8) S R7 (Or.inl rfl) ck) ?_
 rintro v9 d3 bc d4 cl S ⟨bd,ap,rfl,rfl,cm,cn⟩
 replace S:St d b _ bc [.box c 69 [bd,ap],.row ap 5 1 r8.2.2.length]:=S
 replace S:=S.front 1 rfl
 replace S:St d b _ bc [.row ap 5 1 r8.2.2.length,.box c 69 [bd,ap]]:=S
 have l:=l.up cl
 refine We<|Ws<|Wg<|A<|We<|Ws<|Ws<|Wg<|M<|Nq l<|M<|We<|B h fun be co h=>WP.cut (fun f w=>match be with | .inl aq=>∃ (a1:Hp) (ak:Value) (ai:Value),f 2=(int an)∧f 3=(str ao)∧f 9=(ptr c 0)∧(ak=Value.pointer none∨ak=ptr c 0)∧Sl a1 ai aq∧St d b w a1 [.row ai 5 1 aq.length,.box c 69 [ak,ai]] | .inr _=>False) ?_ ?_
 ·refine Wb ?_
  refine WP.loopM (zFB am) (fun s f w=>match s with | (a2,b5,z)=>∃ (au:Hp) (x:Value) (o:Value),f 2=(int an)∧f 3=(str ao)∧f 9=(ptr c 0)∧f 10=(int a2)∧f 19=az∧f 20=(int (am.length:Int))∧f 21=(int b5)∧Sl au az am∧(x=Value.pointer none∨x=ptr c 0)∧Sl au o z∧St d b w au [.row o 5 1 z.length,.box c 69 [x,o]]) (0,0,r8.2.2) be co ?_ ?_
  ·exact ⟨bc,bd,ap,rfl,rfl,rfl,rfl,rfl,rfl,rfl,l,cm,cn,S⟩
  intro s f w hI d5 j b6
  obtain ⟨a2,b5,z⟩:=s
  obtain ⟨au,x,o,bf,bg,av,b7,bh,bi,a3,l,a4,p,S⟩:=hI
  refine Ws<|Wg<|La' a3 bi<|We<|Ws ?_
  rcases condE j with ⟨bj,j⟩ | ⟨bj,j⟩
  ·refine CT bj<|Wk<|Ws<|Wb<|Ws<|Wg<|B j fun k cp j=>W.idx (α:=GField) l bh a3 el26 cp ?_
   rintro d6 _ cq rfl
   refine WL.w (R.loadHN (vs:=[(str k.fName),(str k.fValue)]) S rfl cq lay41 rfl rfl) ?_
   refine W.alloc [(str []),(str [])] S zer41 ?_
   intro ad d7 S
   refine W.store (i:=0) [(str k.fName),(str k.fValue)] S rfl rfl rfl lay41 rfl rfl (Nat.le_of_ble_eq_true kr) rfl ?_
   intro d8 S
   refine We<|Ws<|Ws<|Wg<|Fb ?_
   refine Lo 0 S<|B j fun cr cs j=>W.call S rfl (zHM S.holds (hG.post S.post) k.fName [67,111,110,116,101,110,116,45,76,101,110,103,116,104] cs) ?_
   rintro d9 ea b8 ct S rfl
   have ⟨l,p⟩:=U2 ct l p
   refine M<|B j fun cu ae j=>WL.grpw 4 [29,30,31] 32 (boo cu) (fun w=>∃ H':Hp,b8.le H'∧St d b w H' [.box ad 41 [(str k.fName),(str k.fValue)],.row o 5 1 z.length,.box c 69 [x,o]]) ?_ ?_
   ·rcases boolE cr with aa | aa
    ·replace ae:=condT ae aa
     refine Gn aa<|Gn aa<|Gn aa<|Pt aa ?_
     exact We ⟨(ob ae),ag,⟨b8,lr,S⟩⟩
    replace ae:=condF ae aa
    refine Gy aa<|Fb<|Gy aa ?_
    refine Lo 0 S<|Gy aa<|B ae fun eb cv ae=>W.call S rfl (zHM S.holds (hG.post S.post) k.fName [84,114,97,110,115,102,101,114,45,69,110,99,111,100,105,110,103] cv) ?_
    rintro ec ed cw b9 S rfl
    have ⟨l,p⟩:=U2 b9 l p
    refine Pf aa ?_
    exact We ⟨(ob ae),ag,⟨cw,b9,S⟩⟩
   intro us ee ⟨cx,cy,S⟩
   have ⟨l,p⟩:=U2 cy l p
   refine We ?_
   rcases condE j with ⟨bn,j⟩ | ⟨bn,j⟩
   ·refine CT bn<|Wx<|Wg<|Lg' a3 rfl<|M<|We ?_
    obtain rfl:=oi j
    exact ⟨rfl,⟨cx,x,o,bf,bg,av,b7,bh,bi,rfl,l,a4,p,(S.pk [1,2])⟩⟩
   refine CF bn<|Wk<|Ws<|Wg<|M' b7<|Lg<|A<|We<|Ws<|Wg ?_
   refine WL.w (R.loadBN (i:=0) (vs:=[(str k.fName),(str k.fValue)]) S rfl rfl lay41 rfl rfl)<|B j fun bo cz j=>W.call S rfl (zHA S.holds (hG.post S.post) k cz) ?_
   rintro ef eg bp c0 S rfl
   have ⟨l,p⟩:=U2 c0 l p
   refine A<|We<|Ws<|Ws<|Wg<|M<|Na<|M ?_
   refine WL.grp 3 [40,41] 42 (boo ((bo==[])||(decide (64≤(wr (a2+1)))))) ?_ ?_
   ·rcases boolE (bo==[]) with ab | ab
    ·refine Gn ab<|Gn ab<|Pt ab ?_
     exact We ⟨(orT ab),ag,rfl⟩
    refine Gy ab<|M<|Gy ab<|Ld<|Pf ab ?_
    exact We ⟨(orF ab),ag,rfl⟩
   intro us
   refine M<|B j fun c1 af j=>WL.grpw 3 [44,45] 46 (boo c1) (fun w=>∃ H':Hp,bp.le H'∧St d b w H' [.box ad 41 [(str k.fName),(str k.fValue)],.row o 5 1 z.length,.box c 69 [x,o]]) ?_ ?_
   ·rcases boolE ((bo==[])||(decide (64≤(wr (a2+1))))) with ac | ac
    ·replace af:=condT af ac
     refine Gn ac<|Gn ac<|Pt ac ?_
     exact We ⟨(ob af),ag,⟨bp,lr,S⟩⟩
    replace af:=condF af ac
    refine Gy ac ?_
    replace S:=S.front 1 rfl
    replace S:=S.front 2 rfl
    replace S:St d b _ bp [.box c 69 [x,o],.row o 5 1 z.length,.box ad 41 [(str k.fName),(str k.fValue)]]:=S
    refine B af fun eh c2 af=>W.callS (mapC av mapN) (zBi hG z S p a4 c2) ?_
    rintro ei ej bq ek ca S ⟨rfl,rfl⟩
    replace S:St d b _ bq [.box c 69 [x,o],.row o 5 1 z.length,.box ad 41 [(str k.fName),(str k.fValue)]]:=S
    replace S:=S.front 1 rfl
    replace S:=S.front 2 rfl
    replace S:St d b _ bq [.box ad 41 [(str k.fName),(str k.fValue)],.row o 5 1 z.length,.box c 69 [x,o]]:=S
    have ⟨l,p⟩:=U2 ca l p
    refine Gy ac<|Lc<|Pf ac ?_
    exact We ⟨(ob af),ag,⟨bq,ca,S⟩⟩
   intro us el ⟨c3,c7,S⟩
   have ⟨l,p⟩:=U2 c7 l p
   refine We ?_
   rcases condE j with ⟨br,j⟩ | ⟨br,j⟩
   ·refine CT br<|Ws<|Wg<|A<|We ?_
    obtain rfl:=oi j
    obtain rfl:=b6
    exact WP.ret (Rs h S)
   refine CF br<|Wk<|Wg<|M<|B j fun da db j=>Je db ?_
   replace S:=S.front 1 rfl
   replace S:=S.front 2 rfl
   replace S:St d b _ c3 [.box c 69 [x,o],.row o 5 1 z.length,.box ad 41 [(str k.fName),(str k.fValue)]]:=S
   refine B j fun cb dc j=>W.callS (mapC av (mapC rfl mapN)) (zAH hG da z S p a4 dc) ?_
   rintro em en bs eo dd S ⟨bt,aw,rfl,rfl,de,df⟩
   replace S:St d b _ bs [.box c 69 [bt,aw],.row aw 5 1 cb.2.2.length,.box ad 41 [(str k.fName),(str k.fValue)]]:=S
   replace S:=S.front 1 rfl
   replace S:=S.front 2 rfl
   replace S:St d b _ bs [.box ad 41 [(str k.fName),(str k.fValue)],.row aw 5 1 cb.2.2.length,.box c 69 [bt,aw]]:=S
   have l:=l.up dd
   refine We<|Wg<|Lg' a3 rfl<|M<|We ?_
   obtain rfl:=oi j
   exact ⟨rfl,⟨bs,bt,aw,bf,bg,av,rfl,bh,bi,rfl,l,de,df,(S.pk [1,2])⟩⟩
  refine CF bj<|Wx ?_
  obtain rfl:=oi j
  obtain rfl:=b6
  exact ⟨au,x,o,bf,bg,av,a4,p,S⟩
 intro f w hM
 rcases be with aq | e
 ·obtain ⟨a1,ak,ai,cc,cd,bu,ce,a5,S⟩:=hM
  refine Ws<|Ws<|Wg<|M' cc<|Ld<|We<|B h fun a6 t h=>WP.cut (fun f w=>∃ (a7:Hp) (ax:Value) (al:Value),f 3=(str ao)∧f 9=(ptr c 0)∧(ax=Value.pointer none∨ax=ptr c 0)∧Sl a7 al a6∧St d b w a7 [.row al 5 1 a6.length,.box c 69 [ax,al]]) ?_ ?_
  ·rcases condE t with ⟨bv,t⟩ | ⟨bv,t⟩
   ·refine CT bv<|Wg<|M' cc<|B t fun ep dh t=>W.call S rfl (zFl S.holds (hG.post S.post) an dh) ?_
    rintro eq er di dj S rfl
    have a5:=a5.up dj
    refine B t fun es dk t=>Je dk<|B t fun dl dm t=>Je dm ?_
    replace S:=S.front 1 rfl
    replace S:St d b _ di [.box c 69 [ak,ai],.row ai 5 1 aq.length]:=S
    refine B t fun cf dn t=>W.callS (mapC bu (mapC rfl mapN)) (zAH hG dl aq S a5 ce dn) ?_
    rintro et eu bw ew ex S ⟨bx,ay,rfl,rfl,dp,dq⟩
    replace S:St d b _ bw [.box c 69 [bx,ay],.row ay 5 1 cf.2.2.length]:=S
    replace S:=S.front 1 rfl
    replace S:St d b _ bw [.row ay 5 1 cf.2.2.length,.box c 69 [bx,ay]]:=S
    refine We ?_
    obtain rfl:=oi t
    exact ⟨bw,bx,ay,cd,bu,dp,dq,S⟩
   refine CF bv<|Wk ?_
   obtain rfl:=oi t
   exact ⟨a1,ak,ai,cd,bu,ce,a5,S⟩
  rintro f w ⟨a7,ax,al,dr,bz,ds,dt,S⟩
  refine Ws<|Wg ?_
  replace S:=S.front 1 rfl
  replace S:St d b _ a7 [.box c 69 [ax,al],.row al 5 1 a6.length]:=S
  refine B h fun ah du h=>W.callS (mapC bz (mapC rfl mapN)) (zAH hG [13,10] a6 S dt ds du) ?_
  rintro ey ez b0 e0 e1 S ⟨aj,u,rfl,rfl,cg,a8⟩
  replace S:St d b _ b0 [.box c 69 [aj,u],.row u 5 1 ah.2.2.length]:=S
  replace S:=S.front 1 rfl
  replace S:St d b _ b0 [.row u 5 1 ah.2.2.length,.box c 69 [aj,u]]:=S
  refine We<|Ws<|Ws<|Wg ?_
  replace S:=S.front 1 rfl
  replace S:St d b _ b0 [.box c 69 [aj,u],.row u 5 1 ah.2.2.length]:=S
  refine B h fun e2 dw h=>W.callS (mapC bz mapN) (zBi hG ah.2.2 S a8 cg dw) ?_
  rintro e3 e4 b1 e5 dx S ⟨rfl,rfl⟩
  replace S:St d b _ b1 [.box c 69 [aj,u],.row u 5 1 ah.2.2.length]:=S
  replace S:=S.front 1 rfl
  replace S:St d b _ b1 [.row u 5 1 ah.2.2.length,.box c 69 [aj,u]]:=S
  have a8:=a8.up dx
  refine Lc<|We ?_
  rcases condE h with ⟨b3,h⟩ | ⟨b3,h⟩
  ·refine CT b3<|Ws<|Wg<|A<|We ?_
   exact WP.ret (Rs h S)
  refine CF b3<|Wk<|Ws<|Wg ?_
  replace S:=S.front 1 rfl
  replace S:St d b _ b1 [.box c 69 [aj,u],.row u 5 1 ah.2.2.length]:=S
  refine B h fun e6 dy h=>W.callS (mapC bz mapN) (zAr hG ah.2.2 S a8 cg dy) ?_
  rintro e7 e8 dz e9 fa S ⟨rfl,rfl⟩
  replace S:St d b _ dz [.box c 69 [aj,u]]:=S
  refine M' dr<|B h fun fb d0 h=>Je d0<|A<|We ?_
  exact WP.ret (Rs h S)
 exact hM.elim
end Go.Proofs
namespace Go.Proofs
open Go Go.Eng Go.VI Go.Eng.Pure
set_option linter.unusedVariables false
set_option maxRecDepth 10000
set_option maxHeartbeats 4000000
theorem c137:FE.ok (U:=UU) Tryz.prog ⟨137,[.str,(.sl (.st 41)),.int,.str],[.str],fun x=>zDg x.1 x.2.1 x.2.2.1 x.2.2.2⟩:=@fun w H az x y hw hg b hT h=>by
 obtain ⟨c,_,rfl,d,⟨o,_,rfl,f,⟨i,_,rfl,j,⟨k,rfl,l⟩⟩⟩⟩:=hT
 obtain rfl:c=_:=d
 obtain rfl:i=_:=j
 obtain rfl:k=_:=l
 exact (zIK hw b x.1 x.2.1 x.2.2.1 x.2.2.2 f h).mono (fun _ _ e=>⟨[_],e,_,rfl,rfl⟩)
end Go.Proofs
namespace Go.Proofs
open Go.Eng Go.Eng.Pure
set_option linter.unusedVariables false
theorem zJf {c:World} {b:Hp} (hw:Holds c b) (d:List Str) (f:Str) {vl:Value} (R:Sl b vl d) {r:Str} (h:strings_Join d f=some r) :
  Cs Tryz.prog 50 [vl,(str f)] c b r :=
 zRg Tryz.func50 rfl kr hw R h Tryz.strings_Join_none Tryz.strings_Join
end Go.Proofs
namespace Go.Proofs
open Go Go.Eng Go.VI Go.Eng.Pure
set_option linter.unusedVariables false
set_option maxRecDepth 10000
set_option maxHeartbeats 4000000
theorem c50:FE.ok (U:=UU) Tryz.prog ⟨50,[(.sl .str),.str],[.str],fun x=>strings_Join x.1 x.2⟩:=@fun w H az x y hw hg f hT h=>by
 obtain ⟨i,_,rfl,b,⟨c,rfl,d⟩⟩:=hT
 obtain rfl:c=_:=d
 exact (zJf hw x.1 x.2 b h).mono (fun _ _ e=>⟨[_],e,_,rfl,rfl⟩)
end Go.Proofs
namespace Go.Proofs
open Go.Eng Go.Eng.Pure
set_option linter.unusedVariables false
theorem zHC {b:World} {c:Hp} (hw:Holds b c) (d:Str) (f:Str) {r:Int} (h:zBV d f=some r) :
  Ci Tryz.prog 177 [(str d),(str f)] b c r :=
 zQK Tryz.func177 rfl kr hw h (zGq Tryz.lays153 kr)
end Go.Proofs
namespace Go.Proofs
open Go Go.Eng Go.VI Go.Eng.Pure
set_option linter.unusedVariables false
set_option maxRecDepth 10000
set_option maxHeartbeats 4000000
theorem c177:FE.ok (U:=UU) Tryz.prog ⟨177,[.str,.str],[.int],fun x=>zBV x.1 x.2⟩:=@fun w H az x y hw hg i hT h=>by
 obtain ⟨b,_,rfl,c,⟨d,rfl,f⟩⟩:=hT
 obtain rfl:b=_:=c
 obtain rfl:d=_:=f
 exact (zHC hw x.1 x.2 h).mono (fun _ _ e=>⟨[_],e,_,rfl,rfl⟩)
end Go.Proofs
namespace Go.Proofs
open Go.Eng Go.Eng.Pure
set_option linter.unusedVariables false
theorem mz4:((Tryz.prog.info? 4).bind (·.zero))=some (boo false):=by kernel_rfl
theorem zIL {o:World} {p:Hp} (hw:Holds o p) (hG:Tryz.Gl o) (d:GAxis) {t:Value} (j:Sl p t d.fValues) {r:Bool} (h:zCg d=some r) :
  Cb Tryz.prog 26 [(agg [(str d.fName),t])] o p r:=by
 refine CM 46 Tryz.func26 hw fun S=>?_
 refine Ws<|Wg ?_
 refine W.box [(str d.fName),t] S rfl rfl ?_
 intro b1 w2 S
 refine A<|We<|Ws<|Ws<|Wg<|Fb ?_
 refine Lo 0 S<|Nq j<|La<|M ?_
 refine WL.grp 5 [14,15,16,17] 18 (boo ((decide ((d.fValues.length:Int)<1))||(decide (16<(d.fValues.length:Int))))) ?_ ?_
 ·rcases boolE (decide ((d.fValues.length:Int)<1)) with c | c
  ·refine Gn c<|Gn c<|Gn c<|Gn c<|Pt c ?_
   exact We ⟨(orT c),ag,rfl⟩
  refine Gy c<|Fb<|Gy c ?_
  refine Lo 0 S<|Gy c<|Nq j<|Gy c<|Lc<|Pf c ?_
  exact We ⟨(orF c),ag,rfl⟩
 intro us
 refine We ?_
 rcases condE h with ⟨aa,h⟩ | ⟨aa,h⟩
 ·refine CT aa<|Ws<|Wg<|A<|We ?_
  exact WP.ret (Rb h S)
 refine CF aa<|Wk<|Ws<|Wg<|Fb ?_
 refine Lo 0 S<|B h fun r6 ap h=>W.call S rfl (zD5 S.holds (hG.post S.post) d.fName ap) ?_
 rintro v7 w8 H9 au S rfl
 have j:=j.up au
 refine A<|We<|Ws<|Wg<|W.makeMap S ?_
 intro ai a9 S
 refine A<|We<|Ws<|Ws<|Wg<|Fb ?_
 refine Lo 1 S<|Nq j<|M<|We<|B h fun ac av h=>WP.cut (fun f w=>match ac with | .inl _=>∃ (aj:Hp),St o p w aj [] | .inr _=>False) ?_ ?_
 ·refine Wb ?_
  refine WP.loopM (zA2 d r6) (fun s f w=>match s with | (ak,u)=>∃ (x:Hp),f 3=(Tryz.vvariants_domain r6)∧f 4=(mapv ai)∧f 24=t∧f 25=(int (d.fValues.length:Int))∧f 26=(int ak)∧Sl x t d.fValues∧St o p w x [.mp ai (encm boo u)]) (0,([]:List (Str×Bool))) ac av ?_ ?_
  ·exact ⟨H9,rfl,rfl,rfl,rfl,rfl,j,(S.pk [0])⟩
  intro s f w hI ba b al
  obtain ⟨ak,u⟩:=s
  obtain ⟨x,am,ad,an,ao,ae,j,S⟩:=hI
  refine Ws<|Wg<|La' ae ao<|We<|Ws ?_
  rcases condE b with ⟨af,b⟩ | ⟨af,b⟩
  ·refine CT af<|Wk<|Ws<|Wb<|Ws<|Wg<|B b fun aw ax b=>W.idx (α:=Str) j an ae el36 ax ?_
   rintro bb _ ay rfl
   refine Lq S ay<|A<|We<|Ws<|Wg<|M' am<|M<|B b fun az a0 b=>W.invoke S rfl rfl (zBy S.holds (hG.post S.post) r6 aw a0) ?_
   rintro bc bd a1 a2 S rfl
   have j:=j.up a2
   refine M ?_
   refine Ex ?_
   refine Ex<|A<|A<|We<|Ws<|Ws<|Wg<|M<|No<|M<|B b fun a3 l b=>WL.grp 4 [39,40,41] 42 (boo a3) ?_ ?_
   ·rcases boolE (!az.2) with k | k
    ·replace l:=condT l k
     refine Gn k<|Gn k<|Gn k<|Pt k ?_
     exact We ⟨(ob l),ag,rfl⟩
    replace l:=condF l k
    refine Gy k<|M' ad<|Gy k<|M<|Gy k<|B l fun g38 a4 l=>?_
    refine WL.w (v:=boo g38.1) (R.ofEq (R.lookup1 boo (i:=0) (m:=u) (z:=false) S rfl rfl rfl Tryz.underlying105 Tryz.underlying9 mz4 rfl) (by rw [oi a4]))<|Pf k ?_
    exact We ⟨(ob l),ag,rfl⟩
   intro us
   refine We ?_
   rcases condE b with ⟨ah,b⟩ | ⟨ah,b⟩
   ·refine CT ah<|Ws<|Wg<|A<|We ?_
    obtain rfl:=oi b
    obtain rfl:=al
    exact WP.ret (Rb h S)
   refine CF ah<|Wk<|Wg<|M' ad<|M<|W.mapUpdate boo (i:=0) (m:=u) true S rfl rfl rfl rfl rfl Tryz.underlying105 Tryz.underlying9 ?_
   intro be S
   refine We<|Wg<|Lg' ae rfl<|M<|We ?_
   obtain rfl:=oi b
   exact ⟨rfl,⟨a1,am,ad,an,ao,rfl,j,S⟩⟩
  refine CF af<|Wx ?_
  obtain rfl:=oi b
  obtain rfl:=al
  exact ⟨x,(S.pk [])⟩
 intro f w hM
 rcases ac with _ | e
 ·obtain ⟨aj,S⟩:=hM
  refine Ws<|Wg<|A<|We ?_
  exact WP.ret (Rb h S)
 exact hM.elim
end Go.Proofs
namespace Go.Proofs
open Go Go.Eng Go.VI Go.Eng.Pure
set_option linter.unusedVariables false
set_option maxRecDepth 10000
set_option maxHeartbeats 4000000
theorem c26:FE.ok (U:=UU) Tryz.prog ⟨26,[(.st 62)],[.boo],fun x=>zCg x⟩:=@fun w H az x y hw hg b hT h=>by
 obtain ⟨d,rfl,c⟩:=hT
 obtain ⟨_,rfl,⟨_,rfl,S0_1⟩⟩:=c
 exact (zIL hw b x S0_1 h).mono (fun _ _ e=>⟨[_],e,_,rfl,rfl⟩)
theorem c11:FE.ok (U:=UU) Tryz.prog ⟨11,[(.sl (.st 62))],[.boo],fun x=>zA6 x⟩:=mk (fcons c26 (fcons c25 (fcons c24 anil))) (.n .e (.n .e (.n (.n .e (.lp ⟨[⟨.sl 17,.int,none⟩],some [],[]⟩ (some ⟨[],some [],[]⟩) true (.n .e (.n .e (.n (.n (.n .e (.n .e (.n .e (.lp ⟨[⟨.sl 43,.int,none⟩],some [],[]⟩ (some ⟨[],some [],[]⟩) true .e)))) .e) .e))))) .e))) Tryz.func11
end Go.Proofs
namespace Go.Proofs
open Go.Eng Go.Eng.Pure
set_option linter.unusedVariables false
theorem zD3 {b:World} {d:Hp} (hw:Holds b d) (hG:Tryz.Gl b) (f:List Str) {j:Value} (k:Sl d j f) {r:List Str} (h:zAV f=some r) :
  Con Tryz.prog 212 [j] b d (fun H' v=>Sl H' v r):=by
 unfold zAV at h
 refine CM 8 Tryz.func212 hw fun S=>?_
 refine Ws<|Wg<|A<|We<|Ws<|Ws<|Wg<|M ?_
 rcases Sl.nilE k with ⟨c,hv,hl⟩ | ⟨a,n,c,hv⟩
 ·refine WL.w (R.eqNil hv rfl Tryz.underlying36)<|We<|CT rfl<|Ws<|Wg<|A<|We ?_
  refine WP.ret (Out.one rfl S rfl ?_)
  subst hl
  obtain rfl:=oi h
  exact Sl.nil
 refine WL.w (R.eqNil hv rfl Tryz.underlying36)<|We<|CF rfl<|Wk<|Ws<|Wg<|W.bslice (α:=Str) (n:=0) (ps:=[]) [] [] S el36 rfl rfl rfl (by decide) (fun i v x h=>by cases h) ?_
 intro u t z l o S
 have Rp:=k.up l
 refine M<|W.app (α:=Str) (i:=0) S el36 rfl rfl rfl o Rp h ?_
 intro v2 w2 H2 ad p S
 refine A<|We ?_
 refine WP.ret (Out.one rfl S rfl ?_)
 exact p
end Go.Proofs
namespace Go.Proofs
open Go Go.Eng Go.VI Go.Eng.Pure
set_option linter.unusedVariables false
set_option maxRecDepth 10000
set_option maxHeartbeats 4000000
theorem c212:FE.ok (U:=UU) Tryz.prog ⟨212,[(.sl .str)],[(.sl .str)],fun x=>zAV x⟩:=@fun w H az x y hw hg b hT h=>by
 obtain ⟨d,rfl,c⟩:=hT
 exact (zD3 hw b x c h).mono (fun _ v K0=>⟨[v],rfl,v,rfl,K0⟩)
theorem c186:FE.ok (U:=UU) Tryz.prog ⟨186,[(.sl (.st 62))],[(.sl (.st 62))],fun x=>zJ0 x⟩:=mk (fcons c212 anil) (.n .e (.n .e (.n (.n .e (.lp ⟨[⟨.sl 3,(.sl (.st 62)),some 62⟩,⟨.sl 8,.int,none⟩],some [],[]⟩ (some ⟨[⟨.sl 3,(.sl (.st 62)),some 62⟩],some [],[]⟩) false .e)) .e))) Tryz.func186 [(5,8,[.t 0,.t 1,.t 2,.t 3,.t 4,.l 5 true,.t 6,.l 7 true,.l 8 false,.l 9 false])]
end Go.Proofs
namespace Go.Proofs
open Go.Eng Go.Eng.Pure
set_option linter.unusedVariables false
theorem zCq {b:World} {d:Hp} (hw:Holds b d) (hG:Tryz.Gl b) (f:List GField) {j:Value} (k:Sl d j f) {r:List GField} (h:zAi f=some r) :
  Con Tryz.prog 213 [j] b d (fun H' v=>Sl H' v r):=by
 unfold zAi at h
 refine CM 8 Tryz.func213 hw fun S=>?_
 refine Ws<|Wg<|A<|We<|Ws<|Ws<|Wg<|M ?_
 rcases Sl.nilE k with ⟨c,hv,hl⟩ | ⟨a,n,c,hv⟩
 ·refine WL.w (R.eqNil hv rfl Tryz.underlying26)<|We<|CT rfl<|Ws<|Wg<|A<|We ?_
  refine WP.ret (Out.one rfl S rfl ?_)
  subst hl
  obtain rfl:=oi h
  exact Sl.nil
 refine WL.w (R.eqNil hv rfl Tryz.underlying26)<|We<|CF rfl<|Wk<|Ws<|Wg<|W.bslice (α:=GField) (n:=0) (ps:=[]) [] [] S el26 rfl rfl rfl (by decide) (fun i v x h=>by cases h) ?_
 intro u t z l o S
 have Rp:=k.up l
 refine M<|W.app (α:=GField) (i:=0) S el26 rfl rfl rfl o Rp h ?_
 intro v2 w2 H2 ad p S
 refine A<|We ?_
 refine WP.ret (Out.one rfl S rfl ?_)
 exact p
end Go.Proofs
namespace Go.Proofs
open Go Go.Eng Go.VI Go.Eng.Pure
set_option linter.unusedVariables false
set_option maxRecDepth 10000
set_option maxHeartbeats 4000000
theorem c213:FE.ok (U:=UU) Tryz.prog ⟨213,[(.sl (.st 41))],[(.sl (.st 41))],fun x=>zAi x⟩:=@fun w H az x y hw hg b hT h=>by
 obtain ⟨d,rfl,c⟩:=hT
 exact (zCq hw b x c h).mono (fun _ v K0=>⟨[v],rfl,v,rfl,K0⟩)
theorem c140:FE.ok (U:=UU) Tryz.prog ⟨140,[(.st 38)],[(.st 38)],fun x=>zIz x⟩:=mk (fcons c213 (fcons c212 anil)) (.n .e (.n .e (.n .e (.n (.n .e (.lp ⟨[⟨.sl 11,.int,none⟩,⟨.cs 1 0,(.sl (.sl .str)),some 36⟩,⟨.cs 1 1,(.sl .str),none⟩,⟨.cs 1 2,(.sl .str),none⟩,⟨.cs 1 3,.str,none⟩,⟨.cs 1 4,(.sl (.st 41)),none⟩,⟨.cs 1 5,.str,none⟩,⟨.cs 1 6,.int,none⟩,⟨.cs 1 7,.int,none⟩],some [],[]⟩ (some ⟨[⟨.cs 1 0,(.sl (.sl .str)),some 36⟩,⟨.cs 1 1,(.sl .str),none⟩,⟨.cs 1 2,(.sl .str),none⟩,⟨.cs 1 3,.str,none⟩,⟨.cs 1 4,(.sl (.st 41)),none⟩,⟨.cs 1 5,.str,none⟩,⟨.cs 1 6,.int,none⟩,⟨.cs 1 7,.int,none⟩],some [],[]⟩) false .e)) .e)))) Tryz.func140 [(6,5,[.t 0,.t 1,.t 2,.l 3 true,.l 4 true,.l 5 false,.l 6 false,.l 7 false]),(8,10,[.t 0,.t 1,.t 3,.t 4,.t 6,.t 7,.l 2 true,.t 9,.l 5 true,.l 8 true,.l 10 false,.l 11 false,.l 12 false,.l 13 false,.l 14 false])]
theorem c131:FE.ok (U:=UU) Tryz.prog ⟨131,[.str],[.str,.int,.int],fun x=>zOK x⟩:=mk (fcons c177 anil) (.e) Tryz.func131
theorem zE1 {b:World} {c:Hp} (hw:Holds b c) (hG:Tryz.Gl b) (d:(List GAxis)) {f:Value} (i:Sl c f d) {r:Bool} (h:zA6 d=some r) :
  Cb Tryz.prog 11 [f] b c r:=by
 refine (c11 (xs:=(d)) (y:=r) hw (fun _ _ e=>by cases e) hG ⟨_,rfl,i⟩ h).mono ?_
 rintro _ v ⟨_,rfl,D⟩
 obtain ⟨j,rfl,k⟩:=D
 obtain rfl:j=_:=k
 exact rfl
theorem c105:FE.ok (U:=UU) Tryz.prog ⟨105,[(.sl .str),.str],[.int],fun x=>zBS x.1 x.2⟩:=mk anil (.n .e (.n (.n .e (.lp ⟨[⟨.sl 8,.int,none⟩],some [],[]⟩ (some ⟨[],some [],[]⟩) true .e)) .e)) Tryz.func105
theorem c56:FE.ok (U:=UU) Tryz.prog ⟨56,[(.sl .str),.str],[.boo],fun x=>zAd x.1 x.2⟩:=mk (fcons c105 anil) (.e) Tryz.func56
theorem c54:FE.ok (U:=UU) Tryz.prog ⟨54,[(.sl .str)],[.str],fun x=>zE5 x⟩:=mk (fcons c50 anil) (.e) Tryz.func54
theorem c247:FE.ok (U:=UU) Tryz.prog ⟨247,[.int,.str,.str],[.int],fun x=>zEd x.1 x.2.1 x.2.2⟩:=mk (fcons c242 anil) (.e) Tryz.func247
theorem c289:FE.ok (U:=UU) Tryz.prog ⟨289,[.str,.str],[.int],fun x=>zBw x.1 x.2⟩:=@fun w H az x y hw hg b hT h=>by
 obtain ⟨c,_,rfl,d,⟨f,rfl,i⟩⟩:=hT
 obtain rfl:c=_:=d
 obtain rfl:f=_:=i
 exact (zFo hw b x.1 x.2 h).mono (fun _ _ e=>⟨[_],e,_,rfl,rfl⟩)
theorem c243:FE.ok (U:=UU) Tryz.prog ⟨243,[.str],[.boo],fun x=>zB3 x⟩:=mk (fcons c287 anil) (.e) Tryz.func243
theorem c246:FE.ok (U:=UU) Tryz.prog ⟨246,[.str,.str],[.int],fun x=>zDh x.1 x.2⟩:=mk (fcons c289 (fcons c287 (fcons c243 (fcons c178 (fcons c25 anil))))) (.e) Tryz.func246
theorem c288:FE.ok (U:=UU) Tryz.prog ⟨288,[(.sl (.st 270)),(.st 270)],[.boo],fun x=>zB9 x.1 x.2⟩:=mk (fcons c97 anil) (.n .e (.n (.n .e (.lp ⟨[⟨.sl 9,.int,none⟩],some [],[]⟩ (some ⟨[],some [],[]⟩) true .e)) .e)) Tryz.func288
theorem c245:FE.ok (U:=UU) Tryz.prog ⟨245,[(.st 338),(.st 338)],[.int],fun x=>zC2 x.1 x.2⟩:=mk (fcons c288 anil) (.n .e (.n .e (.n (.n .e (.lp ⟨[⟨.sl 43,.int,none⟩],some [],[]⟩ (some ⟨[],some [],[]⟩) true .e)) .e))) Tryz.func245
theorem c168:FE.ok (U:=UU) Tryz.prog ⟨168,[.int,.str,.str],[.int],fun x=>zEb x.1 x.2.1 x.2.2⟩:=mk (fcons c247 (fcons c246 (fcons c245 (fcons c244 (fcons c239 (fcons c24 anil)))))) (.n .e (.n (.n .e (.j ⟨[],some [],[]⟩ true (.n (.n .e (.n .e (.n .e (.n .e (.n (.n .e (.j ⟨[⟨.sl 38,.boo,none⟩],some [],[]⟩ false .e)) .e))))) .e))) .e)) Tryz.func168
theorem c100:FE.ok (U:=UU) Tryz.prog ⟨100,[.int,(.sl (.st 183)),.boo,.str],[.int],fun x=>zCu x.1 x.2.1 x.2.2.1 x.2.2.2⟩:=mk (fcons c168 (fcons c97 anil)) (.n .e (.n .e (.n .e (.n (.n .e (.lp ⟨[⟨.sl 9,.int,none⟩,⟨.sl 10,.int,none⟩,⟨.sl 18,.int,none⟩],some [],[]⟩ (some ⟨[⟨.sl 9,.int,none⟩,⟨.sl 10,.int,none⟩],some [],[]⟩) false .e)) .e)))) Tryz.func100
theorem zIy {b:World} {c:Hp} (hw:Holds b c) (hG:Tryz.Gl b) (d:Int) (f:(List GPref)) (i:Bool) (j:Str) {k:Value} (l:Sl c k f) {r:Int} (h:zCu d f i j=some r) :
  Ci Tryz.prog 100 [(int d),k,(boo i),(str j)] b c r:=by
 refine (c100 (xs:=(d,f,i,j)) (y:=r) hw (fun _ _ e=>by cases e) hG ⟨_,_,rfl,rfl,⟨_,_,rfl,l,⟨_,_,rfl,rfl,⟨_,rfl,rfl⟩⟩⟩⟩ h).mono ?_
 rintro _ v ⟨_,rfl,D⟩
 obtain ⟨o,rfl,p⟩:=D
 obtain rfl:o=_:=p
 exact rfl
end Go.Proofs
namespace Go.Proofs
open Go.Eng Go.Eng.Pure
set_option linter.unusedVariables false
theorem el167:Elem Tryz.prog 167 3 1:=zEu kr
def Tryz.layIstring_ren:Go.Shelf.Ren:=⟨fun | 17=>290 | 22=>101 | 29=>169 | 30=>170 | 36=>248 | n=>n,fun | 0=>0 | 3=>3 | 4=>4 | 9=>9 | 24=>36 | n=>n,fun | n=>n⟩
theorem Tryz.layIstring:Lays2.n22 Tryz.prog Tryz.layIstring_ren:={
 mixed:=by kernel_rfl
 f17:=Tryz.func290.trans (congrArg some kr)
 f22:=Tryz.func101.trans (congrArg some kr)
 f29:=Tryz.func169.trans (congrArg some kr)
 f30:=Tryz.func170.trans (congrArg some kr)
 f36:=Tryz.func248.trans (congrArg some kr)
 t0:=Tryz.underlying0
 a0:=Tryz.isAgg0
 z0:=Tryz.sizeOf0
 v0:=Tryz.zeroValue0
 t3:=Tryz.underlying3
 a3:=Tryz.isAgg3
 z3:=Tryz.sizeOf3
 v3:=Tryz.zeroValue3
 t4:=Tryz.underlying4
 a4:=Tryz.isAgg4
 z4:=Tryz.sizeOf4
 v4:=Tryz.zeroValue4
 t9:=Tryz.underlying9
 a9:=Tryz.isAgg9
 z9:=Tryz.sizeOf9
 v9:=Tryz.zeroValue9
 t24:=Tryz.underlying36
 a24:=Tryz.isAgg36
 z24:=Tryz.sizeOf36
 v24:=Tryz.zeroValue36
 i9:=by kernel_rfl }
theorem zFF:InsCon Tryz.prog 101 9 (Value.string ⟨#[]⟩).cells 16:=⟨zFQ Tryz.func101 rfl kr,fun b n c i vb vc cs y w=>Any2.slices_Insert_string_shift Tryz.layIstring b 0 n c i vb 0 1 vc cs [y] w,fun b n c vb vc y w=>Any2.slices_Insert_string_end_room Tryz.layIstring b 0 n c vb 0 1 vc [y] w,
 fun base n c vb vc cs y w=>Any2.slices_Insert_string_end_grow Tryz.layIstring base n c vb 0 1 vc cs [y] w,fun b n c i vb vc cs y w=>Any2.slices_Insert_string_grow Tryz.layIstring b 0 n c i vb 0 1 vc cs [y] w⟩
def Tryz.layIint_ren:Go.Shelf.Ren:=⟨fun | 21=>102 | 27=>171 | 28=>172 | 35=>249 | 39=>291 | n=>n,fun | 0=>0 | 3=>3 | 4=>4 | 22=>167 | n=>n,fun | n=>n⟩
theorem Tryz.layIint:Lays2.n21 Tryz.prog Tryz.layIint_ren:={
 mixed:=by kernel_rfl
 f21:=Tryz.func102.trans (congrArg some kr)
 f27:=Tryz.func171.trans (congrArg some kr)
 f28:=Tryz.func172.trans (congrArg some kr)
 f35:=Tryz.func249.trans (congrArg some kr)
 f39:=Tryz.func291.trans (congrArg some kr)
 t0:=Tryz.underlying0
 a0:=Tryz.isAgg0
 z0:=Tryz.sizeOf0
 v0:=Tryz.zeroValue0
 t3:=Tryz.underlying3
 a3:=Tryz.isAgg3
 z3:=Tryz.sizeOf3
 v3:=Tryz.zeroValue3
 t4:=Tryz.underlying4
 a4:=Tryz.isAgg4
 z4:=Tryz.sizeOf4
 v4:=Tryz.zeroValue4
 t22:=Tryz.underlying167
 a22:=Tryz.isAgg167
 z22:=Tryz.sizeOf167
 v22:=Tryz.zeroValue167
 i3:=by kernel_rfl }
theorem zGI:InsCon Tryz.prog 102 3 (Value.int .i64 0).cells 8:=⟨zFQ Tryz.func102 rfl kr,fun b n c i vb vc cs y w=>Any2.slices_Insert_int_shift Tryz.layIint b 0 n c i vb 0 1 vc cs [y] w,fun b n c vb vc y w=>Any2.slices_Insert_int_end_room Tryz.layIint b 0 n c vb 0 1 vc [y] w,
 fun base n c vb vc cs y w=>Any2.slices_Insert_int_end_grow Tryz.layIint base n c vb 0 1 vc cs [y] w,fun b n c i vb vc cs y w=>Any2.slices_Insert_int_grow Tryz.layIint b 0 n c i vb 0 1 vc cs [y] w⟩
theorem zLf {w0:World} {u:Hp} (hw:Holds w0 u) (hG:Tryz.Gl w0) (ah:Int) (ai:(List GPref)) (aj:Bool) (z:(List Str)) {ab:Value} {ac:Value} (d:Sl u ab ai) (c:Sl u ac z) {r:(List Str)} (h:zET ah ai aj z=some r) :
  Con Tryz.prog 53 [(int ah),ab,(boo aj),ac] w0 u (fun H' v=>Sl H' v r):=by
 refine CM 55 Tryz.func53 hw fun S=>?_
 have bi:=d
 have bj:=c
 refine Ws<|Wg<|A<|We<|Ws<|Wg<|A<|We<|Ws<|Wg<|A<|We ?_
 refine Ws<|Ws<|Wg<|M<|Nq c<|M<|We ?_
 obtain ⟨v1,az⟩:∃ v:Value,v=.slice none 0 0:=⟨_,rfl⟩
 have R3:Sl (α:=Str) u v1 []:=by rw [az]; exact Sl.nil
 replace S:=St.addNilV az S 9 1
 obtain ⟨v4,a0⟩:∃ v:Value,v=.slice none 0 0:=⟨_,rfl⟩
 have R6:Sl (α:=Int) u v4 []:=by rw [a0]; exact Sl.nil
 replace S:=St.addNilV a0 S 3 1
 refine B h fun a1 b6 h=>WP.cut (fun f w=>∃ (a2:Hp) (av:Value),f 9=av∧Sl a2 av a1∧St w0 u w a2 [.row av 9 1 a1.length]) ?_ ?_
 ·refine Wb ?_
  refine WP.loopM (zBr ah ai aj z) (fun s f w=>match s with | (ak,aa,aw)=>∃ (H7:Hp) (p:Value) (x:Value),f 0=(int ah)∧f 1=ab∧f 2=(boo aj)∧f 9=p∧f 10=x∧f 15=ac∧f 16=(int (z.length:Int))∧f 17=(int aw)∧Sl H7 ab ai∧Sl H7 p ak∧Sl H7 x aa∧Sl H7 ac z∧St w0 u w H7 [.row x 3 1 aa.length,.row p 9 1 ak.length]) (([]:List Str),([]:List Int),0) a1 b6 ?_ ?_
  ·exact ⟨u,v1,v4,rfl,rfl,rfl,(Eq.trans (b:=.slice none 0 0) rfl az.symm),(Eq.trans (b:=.slice none 0 0) rfl a0.symm),rfl,rfl,rfl,d,R3,R6,c,S⟩
  intro s f w hI c1 k b7
  obtain ⟨ak,aa,aw⟩:=s
  obtain ⟨H7,p,x,h8,h9,a5,a6,a7,a8,a9,ax,d,t,o,c,S⟩:=hI
  refine Ws<|Wg<|La' ax a9<|We<|Ws ?_
  rcases condE k with ⟨ba,k⟩ | ⟨ba,k⟩
  ·refine CT ba<|Wk<|Ws<|Wb<|Ws<|Wg<|B k fun ap b8 k=>W.idx (α:=Str) c a8 ax el36 b8 ?_
   rintro c2 _ b9 rfl
   refine Lq S b9<|A<|We<|Ws<|Wg<|M' h8<|M' h9<|M' a5<|M<|B k fun aq ca k=>W.call S rfl (zIy S.holds (hG.post S.post) ah ai aj ap d ca) ?_
   rintro c3 c7 bp cb S rfl
   have ⟨d,t,o,c⟩:=U4 cb d t o c
   refine A<|We<|Ws<|Ws<|Wg<|M<|Lb<|We ?_
   rcases condE k with ⟨bb,k⟩ | ⟨bb,k⟩
   ·refine CT bb<|Wx<|Wg<|Lg' ax rfl<|M<|We ?_
    obtain rfl:=oi k
    exact ⟨rfl,⟨bp,p,x,h8,h9,a5,a6,a7,a8,a9,rfl,d,t,o,c,S⟩⟩
   refine CF bb<|Wk<|Ws<|Wg<|M' a7<|Nq o<|A<|We<|Ws<|B k fun bq cc k=>WP.cut (fun f w=>∃ (ao:Hp),f 0=(int ah)∧f 1=ab∧f 2=(boo aj)∧f 9=p∧f 10=x∧f 12=(str ap)∧f 13=(int aq)∧f 14=(int bq)∧f 15=ac∧f 16=(int (z.length:Int))∧f 17=(int aw)∧Sl ao ab ai∧Sl ao p ak∧Sl ao x aa∧Sl ao ac z∧St w0 u w ao [.row x 3 1 aa.length,.row p 9 1 ak.length]) ?_ ?_
   ·refine Wb ?_
    refine WP.loopM (zCx aa aq) (fun s f w=>match s with | bc=>∃ (ad:Hp),f 0=(int ah)∧f 1=ab∧f 2=(boo aj)∧f 9=p∧f 10=x∧f 12=(str ap)∧f 13=(int aq)∧f 14=(int bc)∧f 15=ac∧f 16=(int (z.length:Int))∧f 17=(int aw)∧Sl ad ab ai∧Sl ad p ak∧Sl ad x aa∧Sl ad ac z∧St w0 u w ad [.row x 3 1 aa.length,.row p 9 1 ak.length]) (aa.length:Int) bq cc ?_ ?_
    ·exact ⟨bp,h8,h9,a5,a6,a7,rfl,rfl,rfl,a8,a9,ax,d,t,o,c,S⟩
    intro bc f w hI da am cd
    obtain ⟨ad,br,bs,bt,bu,bd,bv,be,ay,bw,bx,bz,d,t,o,c,S⟩:=hI
    refine Ws<|Ws<|Wg<|M' ay<|Lc<|M<|B am fun ce ae am=>WL.grp 8 [33,34,35,36,37,38,39] 40 (boo ce) ?_ ?_
    ·rcases boolE (decide (0<bc)) with l | l
     ·replace ae:=condT ae l
      refine Gy l<|M' bd<|Gy l<|M' ay<|Gy l<|Lh<|Gy l<|B ae fun db cf ae=>W.idx (α:=Int) o rfl rfl el167 cf ?_
      rintro dc _ cg rfl
      refine Gy l ?_
      refine Lq S cg<|Gy l<|M' be<|Gy l<|La<|Pt l ?_
      exact We ⟨(ob ae),ag,rfl⟩
     replace ae:=condF ae l
     refine Gn l<|Gn l<|Gn l<|Gn l<|Gn l<|Gn l<|Gn l<|Pf l ?_
     exact We ⟨(ob ae),ag,rfl⟩
    intro us
    refine We ?_
    rcases condE am with ⟨bf,am⟩ | ⟨bf,am⟩
    ·refine CT bf<|Wk<|Wb<|Wg<|M' ay<|Lh<|A<|We ?_
     obtain rfl:=oi am
     exact ⟨rfl,⟨ad,br,bs,bt,bu,bd,bv,be,rfl,bw,bx,bz,d,t,o,c,S⟩⟩
    refine CF bf<|Wx ?_
    obtain rfl:=oi am
    obtain rfl:=cd
    exact ⟨ad,br,bs,bt,bu,bd,bv,be,ay,bw,bx,bz,d,t,o,c,S⟩
   rintro f w ⟨ao,ch,ci,cj,ck,cl,cm,cn,b0,co,cp,cq,d,t,o,c,S⟩
   refine Wg<|M' ck<|M' b0<|M' cm<|W.bslice (α:=Str) [(str ap)] ([ap]:List Str) S el36 rfl rfl rfl (by decide) (Go.Eng.encS ⟨rfl,rfl⟩ enc0) ?_
   intro dd de df cr an S
   have ⟨d,t,o,c⟩:=U4 cr d t o c
   refine B k fun dh cs k=>W.insertRow (i:=2) (j:=0) zFF rfl (by decide) hw S (by decide) rfl rfl rfl rfl rfl t an cs ?_
   intro ct di dj b1 b2 au S
   have d:=bi.up b1
   have o:=b2 (show (2:Nat)≠1 from by decide) rfl o
   have c:=bj.up b1
   have an:=b2 (show (2:Nat)≠0 from by decide) rfl an
   refine M' cl<|M' b0<|M' cn<|W.bslice (α:=Int) [(int aq)] ([aq]:List Int) S el167 rfl rfl rfl (by decide) (Go.Eng.encS ⟨rfl,rfl⟩ enc0) ?_
   intro dk dl dm cu bg S
   have ⟨d,o,c,an,au⟩:=U5 cu d o c an au
   refine B k fun dn cv k=>W.insertRow (i:=2) (j:=0) zGI rfl (by decide) hw S (by decide) rfl rfl rfl rfl rfl o bg cv ?_
   intro cw dp cx b3 bh cy S
   have d:=bi.up b3
   have c:=bj.up b3
   have an:=bh (show (2:Nat)≠1 from by decide) rfl an
   have au:=bh (show (2:Nat)≠3 from by decide) rfl au
   have bg:=bh (show (2:Nat)≠0 from by decide) rfl bg
   refine A<|A<|We<|Wg<|Lg' cq rfl<|M<|We ?_
   obtain rfl:=oi k
   exact ⟨rfl,⟨cx,ct,cw,ch,ci,cj,rfl,rfl,co,cp,rfl,d,au,cy,c,(S.pk [2,3])⟩⟩
  refine CF ba<|Wx ?_
  obtain rfl:=oi k
  obtain rfl:=b7
  exact ⟨H7,p,a6,t,(S.pk [1])⟩
 rintro f w ⟨a2,av,cz,c0,S⟩
 refine Ws<|Wg<|M' cz<|A<|We ?_
 exact WP.ret (Rl h S c0)
end Go.Proofs
namespace Go.Proofs
open Go Go.Eng Go.VI Go.Eng.Pure
set_option linter.unusedVariables false
set_option maxRecDepth 10000
set_option maxHeartbeats 4000000
theorem c53:FE.ok (U:=UU) Tryz.prog ⟨53,[.int,(.sl (.st 183)),.boo,(.sl .str)],[(.sl .str)],fun x=>zET x.1 x.2.1 x.2.2.1 x.2.2.2⟩:=@fun w H az x y hw hg b hT h=>by
 obtain ⟨c,_,rfl,d,⟨l,_,rfl,f,⟨i,_,rfl,j,⟨o,rfl,k⟩⟩⟩⟩:=hT
 obtain rfl:c=_:=d
 obtain rfl:i=_:=j
 exact (zLf hw b x.1 x.2.1 x.2.2.1 x.2.2.2 f k h).mono (fun _ v K0=>⟨[v],rfl,v,rfl,K0⟩)
noncomputable def w164 {l:List (GE UU)} (h:GamOk Tryz.prog (gal l)):WE Tryz.prog UU:=wJ 164 h (.n .e (.n (.n .e (.lp ⟨[⟨.sl 8,.int,none⟩],some [],[]⟩ (some ⟨[],some [],[]⟩) true .e)) .e)) [.int] [] Tryz.func164
theorem zFP {b:World} {d:Hp} (hw:Holds b d) (hG:Tryz.Gl b) (c:Str) {r:(GMediaType×Bool)} (h:zAo c=some r) :
  Con Tryz.prog 239 [(str c)] b d (fun H' v=>∃ f:Value,v=(.tuple ⟨[(agg [(str r.1.fType),(str r.1.fSub),f]),(boo r.2)]⟩)∧Sl H' f r.1.fParams):=by
 refine (c239 (xs:=(c)) (y:=r) hw (fun _ _ e=>by cases e) hG ⟨_,rfl,rfl⟩ h).mono ?_
 rintro _ v ⟨_,rfl,D⟩
 obtain ⟨k,_,rfl,K0,⟨i,rfl,j⟩⟩:=D
 obtain ⟨_,rfl,⟨_,rfl,K0_0⟩⟩:=K0
 obtain rfl:i=_:=j
 exact ⟨_,rfl,K0_0⟩
end Go.Proofs
namespace Go.Proofs
open Go.Eng Go.Eng.Pure
set_option linter.unusedVariables false
theorem zQY:fld Tryz.prog 338 0=some 0:=by kernel_rfl
instance:Fld Tryz.prog 338 0 0:=⟨zQY⟩
theorem zQo:fld Tryz.prog 338 1=some 1:=by kernel_rfl
instance:Fld Tryz.prog 338 1 1:=⟨zQo⟩
theorem zKT:fld Tryz.prog 270 1=some 1:=by kernel_rfl
instance:Fld Tryz.prog 270 1 1:=⟨zKT⟩
end Go.Proofs
namespace Go.Proofs
open Go Go.Eng Go.VI Go.Eng.Pure
set_option linter.unusedVariables false
set_option maxRecDepth 10000
set_option maxHeartbeats 4000000
theorem zEw {b:World} {d:Hp} (hw:Holds b d) (hG:Tryz.Gl b) (c:Str) {r:Bool} (h:zAW c=some r) :
  Cb Tryz.prog 24 [(str c)] b d r:=by
 refine (c24 (xs:=(c)) (y:=r) hw (fun _ _ e=>by cases e) hG ⟨_,rfl,rfl⟩ h).mono ?_
 rintro _ v ⟨_,rfl,D⟩
 obtain ⟨f,rfl,i⟩:=D
 obtain rfl:f=_:=i
 exact rfl
theorem c49:FE.ok (U:=UU) Tryz.prog ⟨49,[.str],[.str],fun x=>zEL x⟩:=mk anil (.n .e (.n .e (.n (.n .e (.lp ⟨[⟨.sl 3,(.sl .byt),some 5⟩,⟨.sl 8,.int,none⟩],some [],[]⟩ (some ⟨[⟨.sl 3,(.sl .byt),some 5⟩],some [],[]⟩) false (.n .e (.n .e (.n (.n (.n .e (.n (.n .e (.j ⟨[⟨.sl 3,(.sl .byt),some 5⟩],some [],[]⟩ false .e)) .e)) .e) .e))))) .e))) Tryz.func49
theorem zJx {b:World} {d:Hp} (hw:Holds b d) (hG:Tryz.Gl b) (c:Str) {r:Str} (h:zEL c=some r) :
  Cs Tryz.prog 49 [(str c)] b d r:=by
 refine (c49 (xs:=(c)) (y:=r) hw (fun _ _ e=>by cases e) hG ⟨_,rfl,rfl⟩ h).mono ?_
 rintro _ v ⟨_,rfl,D⟩
 obtain ⟨f,rfl,i⟩:=D
 obtain rfl:f=_:=i
 exact rfl
end Go.Proofs
namespace Go.Proofs
open Go.Eng Go.Eng.Pure
set_option linter.unusedVariables false
theorem zJV {k:World} {b:Hp} (hw:Holds k b) (hG:Tryz.Gl k) (aq:Str) (ae:(List GParam)) {al:Value} (l:Sl b al ae) {r:Str} (h:zEl aq ae=some r) :
  Cs Tryz.prog 286 [(str aq),al] k b r:=by
 refine CM 33 Tryz.func286 hw fun S=>?_
 refine Ws<|Wg<|A<|We<|Ws<|Wg ?_
 refine W.alloc [(.pointer none),(.slice none 0 0)] S zer69 ?_
 intro j w2 S
 refine We<|Ws<|Wg<|M ?_
 obtain ⟨v3,au⟩:∃ v:Value,v=.slice none 0 0:=⟨_,rfl⟩
 have R5:Sl (α:=UInt8) b v3 []:=by rw [au]; exact Sl.nil
 replace S:=(show ∀ {w:World},St k b w b [.box j 69 [(.pointer none),(.slice none 0 0)]]→St k b w b [.box j 69 [(.pointer none),v3]] from fun S=>by rw [au]; exact S) S
 replace S:=St.addNilV au S 5 1
 replace S:=S.front 1 rfl
 replace S:St k b _ b [.box j 69 [(.pointer none),v3],.row v3 5 1 ([]:List UInt8).length]:=S
 refine B h fun r6 be h=>W.callS rfl (zAH hG aq ([]:List UInt8) S R5 (Or.inl rfl) be) ?_
 rintro v7 w8 H9 cj bf S ⟨ax,af,rfl,rfl,bg,bh⟩
 replace S:St k b _ H9 [.box j 69 [ax,af],.row af 5 1 r6.2.2.length]:=S
 replace S:=S.front 1 rfl
 replace S:St k b _ H9 [.row af 5 1 r6.2.2.length,.box j 69 [ax,af]]:=S
 have l:=l.up bf
 refine We<|Ws<|Ws<|Wg<|M<|Nq l<|M<|We<|B h fun ah bi h=>WP.cut (fun f w=>∃ (an:Hp) (x:Value) (t:Value),f 5=(ptr j 0)∧(x=Value.pointer none∨x=ptr j 0)∧Sl an t ah∧St k b w an [.row t 5 1 ah.length,.box j 69 [x,t]]) ?_ ?_
 ·refine Wb ?_
  refine WP.loopM (zCF ae) (fun s f w=>match s with | (a6,ai)=>∃ (z:Hp) (aa:Value) (u:Value),f 5=(ptr j 0)∧f 10=al∧f 11=(int (ae.length:Int))∧f 12=(int a6)∧Sl z al ae∧(aa=Value.pointer none∨aa=ptr j 0)∧Sl z u ai∧St k b w z [.row u 5 1 ai.length,.box j 69 [aa,u]]) (0,r6.2.2) ah bi ?_ ?_
  ·exact ⟨H9,ax,af,rfl,rfl,rfl,rfl,l,bg,bh,S⟩
  intro s f w hI ck c bj
  obtain ⟨a6,ai⟩:=s
  obtain ⟨z,aa,u,ab,ay,az,ao,l,a7,a8,S⟩:=hI
  refine Ws<|Wg<|La' ao az<|We<|Ws ?_
  rcases condE c with ⟨a0,c⟩ | ⟨a0,c⟩
  ·refine CT a0<|Wk<|Ws<|Wb<|Ws<|Wg<|B c fun d bn c=>W.idx (α:=GParam) l ay ao el266 bn ?_
   rintro cl _ bo rfl
   refine WL.w (R.loadHN (vs:=[(str d.fName),(str d.fValue)]) S rfl bo zJ6 rfl rfl) ?_
   refine W.alloc [(str []),(str [])] S zRL ?_
   intro o cm S
   refine W.store (i:=0) [(str d.fName),(str d.fValue)] S rfl rfl rfl zJ6 rfl rfl (Nat.le_of_ble_eq_true kr) rfl ?_
   intro cn S
   refine We<|Ws<|Wg<|Fb ?_
   refine Lo 0 S<|B c fun co bp c=>Je bp<|B c fun bq br c=>Je br ?_
   replace S:=S.front 1 rfl
   replace S:=S.front 2 rfl
   replace S:St k b _ z [.box j 69 [aa,u],.row u 5 1 ai.length,.box o 270 [(str d.fName),(str d.fValue)]]:=S
   refine B c fun ac bs c=>W.callS (mapC ab (mapC rfl mapN)) (zAH hG bq ai S a8 a7 bs) ?_
   rintro cp cq a9 cr bt S ⟨ap,p,rfl,rfl,ba,ad⟩
   replace S:St k b _ a9 [.box j 69 [ap,p],.row p 5 1 ac.2.2.length,.box o 270 [(str d.fName),(str d.fValue)]]:=S
   replace S:=S.front 1 rfl
   replace S:=S.front 2 rfl
   replace S:St k b _ a9 [.box o 270 [(str d.fName),(str d.fValue)],.row p 5 1 ac.2.2.length,.box j 69 [ap,p]]:=S
   have l:=l.up bt
   refine We<|Ws<|Wg<|Fb ?_
   refine Lo 0 S<|B c fun cs bu c=>W.call S rfl (zEw S.holds (hG.post S.post) d.fValue bu) ?_
   rintro ct cu bv bw S rfl
   have ⟨l,ad⟩:=U2 bw l ad
   refine We ?_
   rcases condE c with ⟨a1,c⟩ | ⟨a1,c⟩
   ·refine CT a1<|Wg<|Fb ?_
    refine Lo 0 S ?_
    replace S:=S.front 1 rfl
    replace S:=S.front 2 rfl
    replace S:St k b _ bv [.box j 69 [ap,p],.row p 5 1 ac.2.2.length,.box o 270 [(str d.fName),(str d.fValue)]]:=S
    refine B c fun bb bx c=>W.callS (mapC ab (mapC rfl mapN)) (zAH hG d.fValue ac.2.2 S ad ba bx) ?_
    rintro cv cw a2 cx bz S ⟨a3,aj,rfl,rfl,b0,b2⟩
    replace S:St k b _ a2 [.box j 69 [a3,aj],.row aj 5 1 bb.2.2.length,.box o 270 [(str d.fName),(str d.fValue)]]:=S
    replace S:=S.front 1 rfl
    replace S:=S.front 2 rfl
    replace S:St k b _ a2 [.box o 270 [(str d.fName),(str d.fValue)],.row aj 5 1 bb.2.2.length,.box j 69 [a3,aj]]:=S
    have l:=l.up bz
    refine We<|Wg<|Lg' ao rfl<|M<|We ?_
    obtain rfl:=oi c
    exact ⟨rfl,⟨a2,a3,aj,ab,ay,az,rfl,l,b0,b2,(S.pk [1,2])⟩⟩
   refine CF a1<|Wg<|Fb ?_
   refine Lo 0 S<|B c fun b3 b4 c=>W.call S rfl (zJx S.holds (hG.post S.post) d.fValue b4) ?_
   rintro cy cz b5 b6 S rfl
   have ⟨l,ad⟩:=U2 b6 l ad
   replace S:=S.front 1 rfl
   replace S:=S.front 2 rfl
   replace S:St k b _ b5 [.box j 69 [ap,p],.row p 5 1 ac.2.2.length,.box o 270 [(str d.fName),(str d.fValue)]]:=S
   refine B c fun bc b7 c=>W.callS (mapC ab (mapC rfl mapN)) (zAH hG b3 ac.2.2 S ad ba b7) ?_
   rintro c0 c1 a4 c2 b8 S ⟨a5,ak,rfl,rfl,b9,ca⟩
   replace S:St k b _ a4 [.box j 69 [a5,ak],.row ak 5 1 bc.2.2.length,.box o 270 [(str d.fName),(str d.fValue)]]:=S
   replace S:=S.front 1 rfl
   replace S:=S.front 2 rfl
   replace S:St k b _ a4 [.box o 270 [(str d.fName),(str d.fValue)],.row ak 5 1 bc.2.2.length,.box j 69 [a5,ak]]:=S
   have l:=l.up b8
   refine We<|Wg<|Lg' ao rfl<|M<|We ?_
   obtain rfl:=oi c
   exact ⟨rfl,⟨a4,a5,ak,ab,ay,az,rfl,l,b9,ca,(S.pk [1,2])⟩⟩
  refine CF a0<|Wx ?_
  obtain rfl:=oi c
  obtain rfl:=bj
  exact ⟨z,aa,u,ab,a7,a8,S⟩
 rintro f w ⟨an,x,t,cb,cc,cd,S⟩
 refine Ws<|Wg ?_
 replace S:=S.front 1 rfl
 replace S:St k b _ an [.box j 69 [x,t],.row t 5 1 ah.length]:=S
 refine B h fun c3 ce h=>W.callS (mapC cb mapN) (zAr hG ah S cd cc ce) ?_
 rintro c7 da cf db dc S ⟨rfl,rfl⟩
 replace S:St k b _ cf [.box j 69 [x,t]]:=S
 refine A<|We ?_
 exact WP.ret (Rs h S)
end Go.Proofs
