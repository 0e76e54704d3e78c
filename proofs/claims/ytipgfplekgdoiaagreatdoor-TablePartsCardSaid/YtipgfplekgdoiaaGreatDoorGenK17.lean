/- A part. -/
import Derived.Test.YtipgfplekgdoiaaGreatDoorEng38
import Derived.Test.YtipgfplekgdoiaaGreatDoorEng36
import Derived.Test.YtipgfplekgdoiaaGreatDoorGenK16
namespace Go.Proofs
set_option maxHeartbeats 4000000
set_option maxRecDepth 10000
open Go.Eng Go.Eng.Pure
set_option linter.unusedVariables false
theorem zDL {o ws:World} {p Hs:Hp} {q:List Ent} (s0_buf:(List UInt8)) {d:Value} {va0:Value} {c:Nat} (S:St o p ws Hs (.box c 186 [va0,d] :: .row d 5 1 s0_buf.length :: q)) (R0_1:Sl Hs d s0_buf) (t:va0=Value.pointer none∨va0=ptr c 0) {r:Str} (h:zA9 s0_buf=some r) :
  ConS Tryz.prog 181 [(ptr c 0)] o p ws Hs q (fun H' v L'=>L'=[.box c 186 [va0,d]]∧v=(str r)):=by
 refine ConS.mk (N:=14) Tryz.func181 rfl rfl kr rfl<|Ws<|Wg<|A<|We<|Ws<|WP.draw kr 12 rfl (bm 12 0) rfl ?_
 have S:=S.drew
 refine At_ 0 12 1 rfl (fun _=>(R.mv (v:=ptr c 0) rfl)) ?_
 refine At_ 5 12 33 rfl (fun _=>(R.mv (v:=ptr c 0) rfl)) ?_
 refine WA.two (i:=1) (j:=6) (bm 12 35) (bm 12 97) rfl rfl kr rfl rfl ?_ ?_
 ·refine Nn<|We ?_
  refine At_ 2 12 39 rfl (fun _=>(R.fieldB rfl zFP)) ?_
  refine WA.two (i:=3) (j:=6) (bm 12 47) (bm 12 103) rfl rfl kr rfl rfl ?_ ?_
  ·refine Lo 0 S<|We ?_
   refine WA.two (i:=4) (j:=6) (bm 12 63) (bm 12 111) rfl rfl kr rfl rfl ?_ ?_
   ·refine W.sliceData (i:=1) S rfl rfl Tryz.underlying212 ?_
    intro f k b S
    refine We<|WA.one (i:=6) (bm 12 127) rfl kr rfl<|Nn<|We ?_
    refine At_ 7 12 255 rfl (fun _=>(R.fieldB rfl zFP))<|WA.one (i:=8) (bm 12 511) rfl kr rfl ?_
    refine Lo 0 S<|We ?_
    refine At_ 9 12 1023 rfl (fun _=>(R.lenL (α:=UInt8) (xs:=s0_buf) (H:=Hs) R0_1 rfl Tryz.underlying128))<|WA.one (i:=10) (bm 12 2047) rfl kr rfl ?_
    refine W.strOf (i:=1) S rfl R0_1 b rfl rfl Tryz.underlying212 ceo5 ?_
    intro l S
    refine We ?_
    refine At_ 11 12 4095 rfl (fun _=>(R.as (v:=str s0_buf) rfl))<|WA.done kr ?_
    obtain rfl:=oi h
    refine WP.ret (OutS.one (L':=[.box c 186 [va0,d]]) rfl lr S rfl ?_)
    exact ⟨rfl,rfl⟩
   refine Nn<|We ?_
   refine At_ 7 12 239 rfl (fun _=>(R.fieldB rfl zFP)) ?_
   refine WA.two (i:=4) (j:=8) (bm 12 255) (bm 12 495) rfl rfl kr rfl rfl ?_ ?_
   ·refine W.sliceData (i:=1) S rfl rfl Tryz.underlying212 ?_
    intro f k b S
    refine We<|WA.one (i:=8) (bm 12 511) rfl kr rfl ?_
    refine Lo 0 S<|We ?_
    refine At_ 9 12 1023 rfl (fun _=>(R.lenL (α:=UInt8) (xs:=s0_buf) (H:=Hs) R0_1 rfl Tryz.underlying128))<|WA.one (i:=10) (bm 12 2047) rfl kr rfl ?_
    refine W.strOf (i:=1) S rfl R0_1 b rfl rfl Tryz.underlying212 ceo5 ?_
    intro l S
    refine We ?_
    refine At_ 11 12 4095 rfl (fun _=>(R.as (v:=str s0_buf) rfl))<|WA.done kr ?_
    obtain rfl:=oi h
    refine WP.ret (OutS.one (L':=[.box c 186 [va0,d]]) rfl lr S rfl ?_)
    exact ⟨rfl,rfl⟩
   refine Lo 0 S<|We ?_
   refine At_ 9 12 1007 rfl (fun _=>(R.lenL (α:=UInt8) (xs:=s0_buf) (H:=Hs) R0_1 rfl Tryz.underlying128))<|WA.one (i:=4) (bm 12 1023) rfl kr rfl<|W.sliceData (i:=1) S rfl rfl Tryz.underlying212 ?_
   intro f k b S
   refine We<|WA.one (i:=10) (bm 12 2047) rfl kr rfl ?_
   refine W.strOf (i:=1) S rfl R0_1 b rfl rfl Tryz.underlying212 ceo5 ?_
   intro l S
   refine We ?_
   refine At_ 11 12 4095 rfl (fun _=>(R.as (v:=str s0_buf) rfl))<|WA.done kr ?_
   obtain rfl:=oi h
   refine WP.ret (OutS.one (L':=[.box c 186 [va0,d]]) rfl lr S rfl ?_)
   exact ⟨rfl,rfl⟩
  refine Nn<|We ?_
  refine At_ 7 12 231 rfl (fun _=>(R.fieldB rfl zFP)) ?_
  refine WA.two (i:=3) (j:=8) (bm 12 239) (bm 12 487) rfl rfl kr rfl rfl ?_ ?_
  ·refine Lo 0 S<|We ?_
   refine WA.two (i:=4) (j:=8) (bm 12 255) (bm 12 495) rfl rfl kr rfl rfl ?_ ?_
   ·refine W.sliceData (i:=1) S rfl rfl Tryz.underlying212 ?_
    intro f k b S
    refine We<|WA.one (i:=8) (bm 12 511) rfl kr rfl ?_
    refine Lo 0 S<|We ?_
    refine At_ 9 12 1023 rfl (fun _=>(R.lenL (α:=UInt8) (xs:=s0_buf) (H:=Hs) R0_1 rfl Tryz.underlying128))<|WA.one (i:=10) (bm 12 2047) rfl kr rfl ?_
    refine W.strOf (i:=1) S rfl R0_1 b rfl rfl Tryz.underlying212 ceo5 ?_
    intro l S
    refine We ?_
    refine At_ 11 12 4095 rfl (fun _=>(R.as (v:=str s0_buf) rfl))<|WA.done kr ?_
    obtain rfl:=oi h
    refine WP.ret (OutS.one (L':=[.box c 186 [va0,d]]) rfl lr S rfl ?_)
    exact ⟨rfl,rfl⟩
   refine Lo 0 S<|We ?_
   refine At_ 9 12 1007 rfl (fun _=>(R.lenL (α:=UInt8) (xs:=s0_buf) (H:=Hs) R0_1 rfl Tryz.underlying128))<|WA.one (i:=4) (bm 12 1023) rfl kr rfl<|W.sliceData (i:=1) S rfl rfl Tryz.underlying212 ?_
   intro f k b S
   refine We<|WA.one (i:=10) (bm 12 2047) rfl kr rfl ?_
   refine W.strOf (i:=1) S rfl R0_1 b rfl rfl Tryz.underlying212 ceo5 ?_
   intro l S
   refine We ?_
   refine At_ 11 12 4095 rfl (fun _=>(R.as (v:=str s0_buf) rfl))<|WA.done kr ?_
   obtain rfl:=oi h
   refine WP.ret (OutS.one (L':=[.box c 186 [va0,d]]) rfl lr S rfl ?_)
   exact ⟨rfl,rfl⟩
  refine Lo 0 S<|We ?_
  refine At_ 9 12 999 rfl (fun _=>(R.lenL (α:=UInt8) (xs:=s0_buf) (H:=Hs) R0_1 rfl Tryz.underlying128))<|WA.one (i:=3) (bm 12 1007) rfl kr rfl ?_
  refine Lo 0 S<|We<|WA.one (i:=4) (bm 12 1023) rfl kr rfl<|W.sliceData (i:=1) S rfl rfl Tryz.underlying212 ?_
  intro f k b S
  refine We<|WA.one (i:=10) (bm 12 2047) rfl kr rfl ?_
  refine W.strOf (i:=1) S rfl R0_1 b rfl rfl Tryz.underlying212 ceo5 ?_
  intro l S
  refine We ?_
  refine At_ 11 12 4095 rfl (fun _=>(R.as (v:=str s0_buf) rfl))<|WA.done kr ?_
  obtain rfl:=oi h
  refine WP.ret (OutS.one (L':=[.box c 186 [va0,d]]) rfl lr S rfl ?_)
  exact ⟨rfl,rfl⟩
 refine Nn<|We ?_
 refine At_ 7 12 225 rfl (fun _=>(R.fieldB rfl zFP)) ?_
 refine WA.two (i:=1) (j:=8) (bm 12 227) (bm 12 481) rfl rfl kr rfl rfl ?_ ?_
 ·refine Nn<|We ?_
  refine At_ 2 12 231 rfl (fun _=>(R.fieldB rfl zFP)) ?_
  refine WA.two (i:=3) (j:=8) (bm 12 239) (bm 12 487) rfl rfl kr rfl rfl ?_ ?_
  ·refine Lo 0 S<|We ?_
   refine WA.two (i:=4) (j:=8) (bm 12 255) (bm 12 495) rfl rfl kr rfl rfl ?_ ?_
   ·refine W.sliceData (i:=1) S rfl rfl Tryz.underlying212 ?_
    intro f k b S
    refine We<|WA.one (i:=8) (bm 12 511) rfl kr rfl ?_
    refine Lo 0 S<|We ?_
    refine At_ 9 12 1023 rfl (fun _=>(R.lenL (α:=UInt8) (xs:=s0_buf) (H:=Hs) R0_1 rfl Tryz.underlying128))<|WA.one (i:=10) (bm 12 2047) rfl kr rfl ?_
    refine W.strOf (i:=1) S rfl R0_1 b rfl rfl Tryz.underlying212 ceo5 ?_
    intro l S
    refine We ?_
    refine At_ 11 12 4095 rfl (fun _=>(R.as (v:=str s0_buf) rfl))<|WA.done kr ?_
    obtain rfl:=oi h
    refine WP.ret (OutS.one (L':=[.box c 186 [va0,d]]) rfl lr S rfl ?_)
    exact ⟨rfl,rfl⟩
   refine Lo 0 S<|We ?_
   refine At_ 9 12 1007 rfl (fun _=>(R.lenL (α:=UInt8) (xs:=s0_buf) (H:=Hs) R0_1 rfl Tryz.underlying128))<|WA.one (i:=4) (bm 12 1023) rfl kr rfl<|W.sliceData (i:=1) S rfl rfl Tryz.underlying212 ?_
   intro f k b S
   refine We<|WA.one (i:=10) (bm 12 2047) rfl kr rfl ?_
   refine W.strOf (i:=1) S rfl R0_1 b rfl rfl Tryz.underlying212 ceo5 ?_
   intro l S
   refine We ?_
   refine At_ 11 12 4095 rfl (fun _=>(R.as (v:=str s0_buf) rfl))<|WA.done kr ?_
   obtain rfl:=oi h
   refine WP.ret (OutS.one (L':=[.box c 186 [va0,d]]) rfl lr S rfl ?_)
   exact ⟨rfl,rfl⟩
  refine Lo 0 S<|We ?_
  refine At_ 9 12 999 rfl (fun _=>(R.lenL (α:=UInt8) (xs:=s0_buf) (H:=Hs) R0_1 rfl Tryz.underlying128))<|WA.one (i:=3) (bm 12 1007) rfl kr rfl ?_
  refine Lo 0 S<|We<|WA.one (i:=4) (bm 12 1023) rfl kr rfl<|W.sliceData (i:=1) S rfl rfl Tryz.underlying212 ?_
  intro f k b S
  refine We<|WA.one (i:=10) (bm 12 2047) rfl kr rfl ?_
  refine W.strOf (i:=1) S rfl R0_1 b rfl rfl Tryz.underlying212 ceo5 ?_
  intro l S
  refine We ?_
  refine At_ 11 12 4095 rfl (fun _=>(R.as (v:=str s0_buf) rfl))<|WA.done kr ?_
  obtain rfl:=oi h
  refine WP.ret (OutS.one (L':=[.box c 186 [va0,d]]) rfl lr S rfl ?_)
  exact ⟨rfl,rfl⟩
 refine Lo 0 S<|We ?_
 refine At_ 9 12 993 rfl (fun _=>(R.lenL (α:=UInt8) (xs:=s0_buf) (H:=Hs) R0_1 rfl Tryz.underlying128))<|WA.one (i:=1) (bm 12 995) rfl kr rfl<|Nn<|We ?_
 refine At_ 2 12 999 rfl (fun _=>(R.fieldB rfl zFP))<|WA.one (i:=3) (bm 12 1007) rfl kr rfl ?_
 refine Lo 0 S<|We<|WA.one (i:=4) (bm 12 1023) rfl kr rfl<|W.sliceData (i:=1) S rfl rfl Tryz.underlying212 ?_
 intro f k b S
 refine We<|WA.one (i:=10) (bm 12 2047) rfl kr rfl ?_
 refine W.strOf (i:=1) S rfl R0_1 b rfl rfl Tryz.underlying212 ceo5 ?_
 intro l S
 refine We ?_
 refine At_ 11 12 4095 rfl (fun _=>(R.as (v:=str s0_buf) rfl))<|WA.done kr ?_
 obtain rfl:=oi h
 refine WP.ret (OutS.one (L':=[.box c 186 [va0,d]]) rfl lr S rfl ?_)
 exact ⟨rfl,rfl⟩
theorem zJC {k:World} {b:Hp} (hw:Holds k b) (ap:Str) (ad:(List GParam)) {ak:Value} (l:Sl b ak ad) {r:Str} (h:zFK ap ad=some r) :
  Cs Tryz.prog 257 [(str ap),ak] k b r:=by
 refine CM 33 Tryz.func257 hw fun S=>?_
 refine Ws<|Wg<|A<|We<|Ws<|Wg ?_
 refine W.alloc [(.pointer none),(.slice none 0 0)] S zPf ?_
 intro j w2 S
 refine We<|Ws<|Wg<|M ?_
 obtain ⟨v3,aq⟩:∃ v:Value,v=.slice none 0 0:=⟨_,rfl⟩
 have R5:Sl (α:=UInt8) b v3 []:=by rw [aq]; exact Sl.nil
 replace S:=(show ∀ {w:World},St k b w b [.box j 186 [(.pointer none),(.slice none 0 0)]]→St k b w b [.box j 186 [(.pointer none),v3]] from fun S=>by rw [aq]; exact S) S
 replace S:=St.addNilV aq S 5 1
 replace S:=S.front 1 rfl
 replace S:St k b _ b [.box j 186 [(.pointer none),v3],.row v3 5 1 ([]:List UInt8).length]:=S
 refine B h fun r6 bc h=>W.callS rfl (zAZ ap ([]:List UInt8) S R5 (Or.inl rfl) bc) ?_
 rintro v7 w8 H9 cg bd S ⟨av,ae,rfl,rfl,be,bf⟩
 replace S:St k b _ H9 [.box j 186 [av,ae],.row ae 5 1 r6.2.2.length]:=S
 replace S:=S.front 1 rfl
 replace S:St k b _ H9 [.row ae 5 1 r6.2.2.length,.box j 186 [av,ae]]:=S
 have l:=l.up bd
 refine We<|Ws<|Ws<|Wg<|M<|Nq l<|M<|We<|B h fun af bg h=>WP.cut (fun f w=>∃ (am:Hp) (u:Value) (q:Value),f 5=(ptr j 0)∧(u=Value.pointer none∨u=ptr j 0)∧Sl am q af∧St k b w am [.row q 5 1 af.length,.box j 186 [u,q]]) ?_ ?_
 ·refine Wb ?_
  refine WP.loopM (zCa ad) (fun s f w=>match s with | (a4,ah)=>∃ (x:Hp) (z:Value) (t:Value),f 5=(ptr j 0)∧f 10=ak∧f 11=(int (ad.length:Int))∧f 12=(int a4)∧Sl x ak ad∧(z=Value.pointer none∨z=ptr j 0)∧Sl x t ah∧St k b w x [.row t 5 1 ah.length,.box j 186 [z,t]]) (0,r6.2.2) af bg ?_ ?_
  ·exact ⟨H9,av,ae,rfl,rfl,rfl,rfl,l,be,bf,S⟩
  intro s f w hI ch c bh
  obtain ⟨a4,ah⟩:=s
  obtain ⟨x,z,t,aa,aw,ax,an,l,a5,a6,S⟩:=hI
  refine Ws<|Wg<|La' an ax<|We<|Ws ?_
  rcases condE c with ⟨ay,c⟩ | ⟨ay,c⟩
  ·refine CT ay<|Wk<|Ws<|Wb<|Ws<|Wg<|B c fun d bi c=>W.idx (α:=GParam) l aw an el156 bi ?_
   rintro ci _ bj rfl
   refine WL.w (R.loadHN (vs:=[(str d.fName),(str d.fValue)]) S rfl bj zGm rfl rfl) ?_
   refine W.alloc [(str []),(str [])] S zJb ?_
   intro o cj S
   refine W.store (i:=0) [(str d.fName),(str d.fValue)] S rfl rfl rfl zGm rfl rfl (Nat.le_of_ble_eq_true rfl) rfl ?_
   intro ck S
   refine We<|Ws<|Wg<|Fb ?_
   refine Lo 0 S<|B c fun cl bk c=>Je bk<|B c fun bn bo c=>Je bo ?_
   replace S:=S.front 1 rfl
   replace S:=S.front 2 rfl
   replace S:St k b _ x [.box j 186 [z,t],.row t 5 1 ah.length,.box o 161 [(str d.fName),(str d.fValue)]]:=S
   refine B c fun ab bp c=>W.callS (mapC aa (mapC rfl mapN)) (zAZ bn ah S a6 a5 bp) ?_
   rintro cm cn a7 co bq S ⟨ao,p,rfl,rfl,a8,ac⟩
   replace S:St k b _ a7 [.box j 186 [ao,p],.row p 5 1 ab.2.2.length,.box o 161 [(str d.fName),(str d.fValue)]]:=S
   replace S:=S.front 1 rfl
   replace S:=S.front 2 rfl
   replace S:St k b _ a7 [.box o 161 [(str d.fName),(str d.fValue)],.row p 5 1 ab.2.2.length,.box j 186 [ao,p]]:=S
   have l:=l.up bq
   refine We<|Ws<|Wg<|Fb ?_
   refine Lo 0 S<|B c fun cp br c=>W.call S rfl (zAx S.holds d.fValue br) ?_
   rintro cq cr bs bt S rfl
   have ⟨l,ac⟩:=U2 bt l ac
   refine We ?_
   rcases condE c with ⟨az,c⟩ | ⟨az,c⟩
   ·refine CT az<|Wg<|Fb ?_
    refine Lo 0 S ?_
    replace S:=S.front 1 rfl
    replace S:=S.front 2 rfl
    replace S:St k b _ bs [.box j 186 [ao,p],.row p 5 1 ab.2.2.length,.box o 161 [(str d.fName),(str d.fValue)]]:=S
    refine B c fun a9 bu c=>W.callS (mapC aa (mapC rfl mapN)) (zAZ d.fValue ab.2.2 S ac a8 bu) ?_
    rintro cs ct a0 cu bv S ⟨a1,ai,rfl,rfl,bw,bx⟩
    replace S:St k b _ a0 [.box j 186 [a1,ai],.row ai 5 1 a9.2.2.length,.box o 161 [(str d.fName),(str d.fValue)]]:=S
    replace S:=S.front 1 rfl
    replace S:=S.front 2 rfl
    replace S:St k b _ a0 [.box o 161 [(str d.fName),(str d.fValue)],.row ai 5 1 a9.2.2.length,.box j 186 [a1,ai]]:=S
    have l:=l.up bv
    refine We<|Wg<|Lg' an rfl<|M<|We ?_
    obtain rfl:=oi c
    exact ⟨rfl,⟨a0,a1,ai,aa,aw,ax,rfl,l,bw,bx,(S.pk [1,2])⟩⟩
   refine CF az<|Wg<|Fb ?_
   refine Lo 0 S<|B c fun bz b0 c=>W.call S rfl (zJJ S.holds d.fValue b0) ?_
   rintro cv cw b2 b3 S rfl
   have ⟨l,ac⟩:=U2 b3 l ac
   replace S:=S.front 1 rfl
   replace S:=S.front 2 rfl
   replace S:St k b _ b2 [.box j 186 [ao,p],.row p 5 1 ab.2.2.length,.box o 161 [(str d.fName),(str d.fValue)]]:=S
   refine B c fun ba b4 c=>W.callS (mapC aa (mapC rfl mapN)) (zAZ bz ab.2.2 S ac a8 b4) ?_
   rintro cx cy a2 cz b5 S ⟨a3,aj,rfl,rfl,b6,b7⟩
   replace S:St k b _ a2 [.box j 186 [a3,aj],.row aj 5 1 ba.2.2.length,.box o 161 [(str d.fName),(str d.fValue)]]:=S
   replace S:=S.front 1 rfl
   replace S:=S.front 2 rfl
   replace S:St k b _ a2 [.box o 161 [(str d.fName),(str d.fValue)],.row aj 5 1 ba.2.2.length,.box j 186 [a3,aj]]:=S
   have l:=l.up b5
   refine We<|Wg<|Lg' an rfl<|M<|We ?_
   obtain rfl:=oi c
   exact ⟨rfl,⟨a2,a3,aj,aa,aw,ax,rfl,l,b6,b7,(S.pk [1,2])⟩⟩
  refine CF ay<|Wx ?_
  obtain rfl:=oi c
  obtain rfl:=bh
  exact ⟨x,z,t,aa,a5,a6,S⟩
 rintro f w ⟨am,u,q,b8,b9,ca,S⟩
 refine Ws<|Wg ?_
 replace S:=S.front 1 rfl
 replace S:St k b _ am [.box j 186 [u,q],.row q 5 1 af.length]:=S
 refine B h fun c0 cb h=>W.callS (mapC b8 mapN) (zDL af S ca b9 cb) ?_
 rintro c1 c2 cc c3 c4 S ⟨rfl,rfl⟩
 replace S:St k b _ cc [.box j 186 [u,q]]:=S
 refine A<|We ?_
 exact WP.ret (Rs h S)
theorem zHO {f:World} {c:Hp} (hw:Holds f c) (b:GMediaType) {d:Value} (i:Sl c d b.fParams) {r:Str} (h:zDG b=some r) :
  Cs Tryz.prog 245 [(agg [(str b.fType),(str b.fSub),d])] f c r:=by
 refine CM 12 Tryz.func245 hw fun S=>?_
 refine Ws<|Wg ?_
 refine W.box [(str b.fType),(str b.fSub),d] S rfl rfl ?_
 intro p q S
 refine A<|We<|Ws<|Wg<|Fb ?_
 refine Lo 0 S<|B h fun t j h=>Je j<|Fb ?_
 refine Lo 0 S<|B h fun k l h=>Je l<|Fb ?_
 refine Lo 0 S<|B h fun u o h=>W.call S rfl (zJC S.holds k b.fParams i o) ?_
 rintro v x z aa S rfl
 refine A<|We ?_
 exact WP.ret (Rs h S)
theorem zHj {p:World} {c:Hp} (hw:Holds p c) (j:Str) (k:(List GParam)) {d:Value} {q:Addr} {t:Addr} (z:At c q [(str j)]) (o:At c t [d]) (f:Sl c d k) {r:(Str×Bool)} (h:zE9 j k=some r) :
  Con Tryz.prog 243 [(.pointer (some q)),(.pointer (some t))] p c (fun H' v=>v=(.tuple ⟨[(str r.1),(boo r.2)]⟩)):=by
 refine CM 16 Tryz.func243 hw fun S=>?_
 refine Ws<|Wg<|A<|A<|We<|Ws<|Wg ?_
 refine Lq S z<|B h fun b aa h=>W.call S rfl (zB4 S.holds j aa) ?_
 rintro v2 w3 H4 u S ⟨x,rfl,R7⟩
 have o:=At.mono o u (by simp)
 have f:=f.up u
 refine M ?_
 refine Ex ?_
 refine Ex ?_
 refine W.alloc [(str []),(str []),(.slice none 0 0)] S zDq ?_
 intro b8 w9 S
 refine W.store (i:=0) [(str b.1.fType),(str b.1.fSub),x] S rfl rfl rfl zBJ rfl (AllOne.all (l:=[(str b.1.fType),(str b.1.fSub),x]) (.cons rfl (.cons rfl (.cons (Sl.oneC R7) .nil)))) (Nat.le_of_ble_eq_true rfl) rfl ?_
 intro aj S
 refine A<|We<|Ws<|Wg ?_
 refine Lq S o<|Fb ?_
 refine W.storeSl (α:=GParam) (i:=0) [(str b.1.fType),(str b.1.fSub),d] S f rfl rfl rfl zOp (Nat.le_of_ble_eq_true rfl) rfl ?_
 intro ak S
 refine We<|Ws<|Wg ?_
 refine WL.w (R.loadBN (i:=0) (vs:=[(str b.1.fType),(str b.1.fSub),d]) S rfl rfl zBJ rfl rfl)<|B h fun al ac h=>W.call S rfl (zHO S.holds (⟨b.1.fType,b.1.fSub,k⟩:GMediaType) f ac) ?_
 rintro am an ao ap S rfl
 refine M<|A<|A<|We ?_
 obtain rfl:=oi h
 refine WP.ret (Out.two rfl S rfl rfl ?_)
 exact rfl
theorem zFw {i:World} {d:Hp} (hw:Holds i d) (f:Str) {r:Bool} (h:zC7 f=some r) :
  Cb Tryz.prog 248 [(str f)] i d r:=by
 refine CM 9 Tryz.func248 hw fun S=>?_
 refine Ws<|Wg<|A<|We<|Ws<|Wg<|M<|Na<|M<|B h fun j c h=>WL.grpw 3 [6,7] 8 (boo j) (fun w=>∃ H':Hp,d.le H'∧St i d w H' []) ?_ ?_
 ·rcases boolE (f==[42]) with b | b
  ·replace c:=condT c b
   refine Gn b<|Gn b<|Pt b ?_
   exact We ⟨(ob c),ag,⟨d,lr,S⟩⟩
  replace c:=condF c b
  refine Gy b<|M<|Gy b<|B c fun p k c=>W.call S rfl (zFD S.holds f k) ?_
  rintro q t l o S rfl
  refine Pf b ?_
  exact We ⟨(ob c),ag,⟨l,o,S⟩⟩
 intro us u ⟨v,x,S⟩
 refine A<|We ?_
 exact WP.ret (Rb h S)
theorem zHw {l:World} {c:Hp} (hw:Holds l c) (f:Int) (d:Str) (i:(List GParam)) {j:Value} {o:Addr} {p:Addr} {q:Addr} (u:At c o [(int f)]) (t:At c p [(str d)]) (x:At c q [j]) (z:Sl c j i) {r:(Str×Bool)} (h:zE2 f d i=some r) :
  Con Tryz.prog 246 [(.pointer (some o)),(.pointer (some p)),(.pointer (some q))] l c (fun H' v=>v=(.tuple ⟨[(str r.1),(boo r.2)]⟩)):=by
 refine CM 15 Tryz.func246 hw fun S=>?_
 refine Ws<|Wg<|A<|A<|We<|Ws<|WP.quiet S kr kr ?_
 refine QH (int f) u ?_
 refine QH (str d) t<|B h fun r4 ab h=>WQ.call (v:=str r4) rfl (fun w H' hq S=>zBT S.holds f d ab) ?_
 refine QH (str d) t<|B h fun k ac h=>WQ.call (v:=boo k) rfl (fun w H' hq S=>zFw S.holds d ac)<|QM ?_
 refine WQ.grp 4 [11,12,13] 14 (boo (k&&((i.length:Int)==0))) ?_ ?_
 ·rcases boolE k with b | b
  ·refine QGy b ?_
   refine QH j x<|QGy b<|QNq z<|QGy b<|QLe<|QPt b ?_
   exact WQ.nil ⟨(andT b),ag⟩
  refine QGn b<|QGn b<|QGn b<|QPf b ?_
  exact WQ.nil ⟨(andF b),ag⟩
 intro us
 refine QA<|QA<|WQ.nil ?_
 intro w1 H2 af S
 obtain rfl:=oi h
 refine WP.ret (Out.two rfl S rfl rfl ?_)
 exact rfl
theorem zIZ {x:World} {q:Hp} (hw:Holds x q) (c:Int) (o:Str) (ac:(List GParam)) {z:Value} (d:Sl q z ac) {r:(Str×Bool)} (h:zEs c o ac=some r) :
  Con Tryz.prog 219 [(int c),(str o),z] x q (fun H' v=>v=(.tuple ⟨[(str r.1),(boo r.2)]⟩)):=by
 refine CM 36 Tryz.func219 hw fun S=>?_
 refine Ws<|Wg ?_
 refine W.box [(int c)] S rfl rfl ?_
 intro t w2 S
 refine W.box [(str o)] S rfl rfl ?_
 intro j w4 S
 refine W.box [z] S rfl (congrArg Array.toList (Sl.cellsOne d)) ?_
 intro f w6 S
 refine A<|A<|We<|Ws<|Wg<|W.makeMap S ?_
 intro b7 w8 S
 replace S:St x q _ q [.mp b7 (enci []),.box f 156 [z],.box j 9 [(str o)],.box t 3 [(int c)]]:=S
 obtain ⟨H9,ao,ap,_,S⟩:=S.settle (i:=2) rfl
 replace S:St x q _ H9 [.mp b7 (enci []),.box f 156 [z],.box t 3 [(int c)]]:=S
 have l:At H9 ⟨j,0,none⟩ [(str o)]:=⟨_,_,rfl,ap,[],by simp⟩
 have d:=d.up ao
 obtain ⟨ah,an,aq,_,S⟩:=S.settle (i:=1) rfl
 replace S:St x q _ ah [.mp b7 (enci []),.box t 3 [(int c)]]:=S
 have u:At ah ⟨f,0,none⟩ [z]:=⟨_,_,rfl,aq,[],by simp⟩
 have d:=d.up an
 have l:=At.mono l an (by simp)
 refine WL.w (R.mkFunc (vs:=[(.pointer (some ⟨j,0,none⟩)),(.pointer (some ⟨f,0,none⟩))]) rfl)<|W.insertI (i:=0) (m:=[]) (k:=1) (v:=.func (.func 243) #[] [(.pointer (some ⟨j,0,none⟩)),(.pointer (some ⟨f,0,none⟩))].toArray) S rfl rfl rfl rfl Tryz.underlying238 Tryz.underlying3 rfl ?_
 intro a3 S
 replace S:St x q _ ah [.mp b7 (enci [(1,(.func (.func 243) #[] [(.pointer (some ⟨j,0,none⟩)),(.pointer (some ⟨f,0,none⟩))].toArray))]),.box t 3 [(int c)]]:=S
 obtain ⟨ai,aj,ar,_,S⟩:=S.settle (i:=1) rfl
 replace S:St x q _ ai [.mp b7 (enci [(1,(.func (.func 243) #[] [(.pointer (some ⟨j,0,none⟩)),(.pointer (some ⟨f,0,none⟩))].toArray))])]:=S
 have aa:At ai ⟨t,0,none⟩ [(int c)]:=⟨_,_,rfl,ar,[],by simp⟩
 have d:=d.up aj
 have l:=At.mono l aj (by simp)
 have u:=At.mono u aj (by simp)
 refine WL.w (R.mkFunc (vs:=[(.pointer (some ⟨t,0,none⟩)),(.pointer (some ⟨j,0,none⟩)),(.pointer (some ⟨f,0,none⟩))]) rfl)<|W.insertI (i:=0) (m:=[(1,(.func (.func 243) #[] [(.pointer (some ⟨j,0,none⟩)),(.pointer (some ⟨f,0,none⟩))].toArray))]) (k:=2) (v:=.func (.func 246) #[] [(.pointer (some ⟨t,0,none⟩)),(.pointer (some ⟨j,0,none⟩)),(.pointer (some ⟨f,0,none⟩))].toArray) S rfl rfl rfl rfl Tryz.underlying238 Tryz.underlying3 rfl ?_
 intro a4 S
 replace S:St x q _ ai [.mp b7 (enci [(1,(.func (.func 243) #[] [(.pointer (some ⟨j,0,none⟩)),(.pointer (some ⟨f,0,none⟩))].toArray)),(2,(.func (.func 246) #[] [(.pointer (some ⟨t,0,none⟩)),(.pointer (some ⟨j,0,none⟩)),(.pointer (some ⟨f,0,none⟩))].toArray))])]:=S
 refine M<|A<|We<|Ws<|Ws<|Wg<|M ?_
 refine Lq S aa ?_
 rcases condE h with ⟨ad,h⟩ | ⟨ad,h⟩
 ·refine WL.w (v:=.tuple ⟨[(.func (.func 243) #[] [(.pointer (some ⟨j,0,none⟩)),(.pointer (some ⟨f,0,none⟩))].toArray),(boo true)]⟩) (R.lookupI (i:=0) (k:=c) S rfl rfl rfl Tryz.underlying238 Tryz.underlying3 (zKf ad))<|M ?_
  refine Ex ?_
  refine Ex<|A<|A<|We<|Ws<|Wg<|M<|We<|WP.condT (b:=true) rfl rfl ?_
  refine Ws<|Wg<|M<|B h fun a5 au h=>W.callv S rfl rfl (zHj S.holds o ac l u d au) ?_
  rintro a6 a7 a8 ae S rfl
  have d:=d.up ae
  have aa:=At.mono aa ae (by simp)
  have l:=At.mono l ae (by simp)
  have u:=At.mono u ae (by simp)
  refine Ex ?_
  refine Ex<|A<|A<|We ?_
  obtain rfl:=oi h
  refine WP.ret (Out.two rfl S rfl rfl ?_)
  exact rfl
 rcases condE h with ⟨ak,h⟩ | ⟨ak,h⟩
 ·refine WL.w (v:=.tuple ⟨[(.func (.func 246) #[] [(.pointer (some ⟨t,0,none⟩)),(.pointer (some ⟨j,0,none⟩)),(.pointer (some ⟨f,0,none⟩))].toArray),(boo true)]⟩) (R.lookupI (i:=0) (k:=c) S rfl rfl rfl Tryz.underlying238 Tryz.underlying3 (zIA ad (zKf ak)))<|M ?_
  refine Ex ?_
  refine Ex<|A<|A<|We<|Ws<|Wg<|M<|We<|WP.condT (b:=true) rfl rfl ?_
  refine Ws<|Wg<|M<|B h fun a9 av h=>W.callv S rfl rfl (zHw S.holds c o ac aa l u d av) ?_
  rintro ba bb bc af S rfl
  have d:=d.up af
  have aa:=At.mono aa af (by simp)
  have l:=At.mono l af (by simp)
  have u:=At.mono u af (by simp)
  refine Ex ?_
  refine Ex<|A<|A<|We ?_
  obtain rfl:=oi h
  refine WP.ret (Out.two rfl S rfl rfl ?_)
  exact rfl
 refine WL.w (v:=.tuple ⟨[.nilFunc,(boo false)]⟩) (R.lookupIN (i:=0) (k:=c) S rfl rfl rfl Tryz.underlying238 Tryz.underlying3 mz237 (zIA ad (zIA ak zM8)))<|M ?_
 refine Ex ?_
 refine Ex<|A<|A<|We<|Ws<|Wg<|M<|We<|WP.condF (b:=false) rfl rfl ?_
 refine Wk<|Ws<|WP.quiet S kr kr ?_
 refine QH (int c) aa ?_
 refine QH (str o) l<|B h fun aw ax h=>WQ.call (v:=str aw) rfl (fun w H' hq S=>zBT S.holds c o ax) ?_
 refine QH (str o) l<|B h fun al ay h=>WQ.call (v:=boo al) rfl (fun w H' hq S=>zAx S.holds o ay)<|QM ?_
 refine WQ.grp 4 [32,33,34] 35 (boo (al&&((ac.length:Int)==0))) ?_ ?_
 ·rcases boolE al with p | p
  ·refine QGy p ?_
   refine QH z u<|QGy p<|QNq d<|QGy p<|QLe<|QPt p ?_
   exact WQ.nil ⟨(andT p),ag⟩
  refine QGn p<|QGn p<|QGn p<|QPf p ?_
  exact WQ.nil ⟨(andF p),ag⟩
 intro us
 refine QA<|QA<|WQ.nil ?_
 intro bd be bf S
 obtain rfl:=oi h
 refine WP.ret (Out.two rfl S rfl rfl ?_)
 exact rfl
theorem zJL {l:World} {o:Hp} (hw:Holds l o) (j:Int) (p:Str) {r:(GPref×Bool)} (h:zGK j p=some r) :
  Con Tryz.prog 182 [(int j),(str p)] l o (fun H' v=>v=(.tuple ⟨[(agg [(str r.1.fRange),(int r.1.fQ)]),(boo r.2)]⟩)):=by
 refine CM 51 Tryz.func182 hw fun S=>?_
 refine Ws<|Wg ?_
 refine W.alloc [(str []),(int 0)] S zJa ?_
 intro b1 w2 S
 refine A<|We<|Ws<|Wg<|M<|B h fun q af h=>W.call S rfl (zHE S.holds p af) ?_
 rintro v4 w5 H6 a8 S ⟨u8,rfl,c⟩
 refine M ?_
 refine Ex ?_
 refine Ex ?_
 refine Ex<|A<|A<|A<|We<|Ws<|Ws<|Wg<|M ?_
 refine No<|We ?_
 rcases condE h with ⟨t,h⟩ | ⟨t,h⟩
 ·refine CT t<|Ws<|Wg ?_
  refine WL.w (R.build [] [(str []),(int 0)] bp147 zJa rfl rfl) ?_
  refine W.store (i:=0) [(str []),(int 0)] S rfl rfl rfl zGg rfl rfl (Nat.le_of_ble_eq_true rfl) rfl ?_
  intro a9 S
  refine A<|We ?_
  obtain rfl:=oi h
  refine WP.ret (Out.two rfl S (Res.cellB (i:=0) (cs:=[(str []),(int 0)]) S rfl rfl zGg rfl rfl) rfl ?_)
  exact rfl
 refine CF t<|Wk<|Ws<|Wg<|A<|We<|Ws<|Ws<|Wg<|M<|B h fun ba ai h=>W.call S rfl (zBE S.holds q.2.1 zB7 c (fun hle hw x0 r h=>zIW hw x0 h) ai) ?_
 rintro bb bc ak al S rfl
 have c:=c.up al
 refine A<|We<|Ws<|Wg<|M<|Ld<|We<|B h fun ad b h=>WP.cut (fun f w=>match ad with | .inl (u,d)=>∃ (x:Hp) (z:Value),f 0=(int j)∧f 4=(ptr b1 0)∧f 6=(str q.1)∧f 7=z∧f 9=(int d)∧Sl x z u∧St l o w x [.box b1 147 [(str []),(int 0)]] | .inr _=>False) ?_ ?_
 ·rcases condE b with ⟨aa,b⟩ | ⟨aa,b⟩
  ·refine CT aa<|Ws<|Ws<|Wg<|M<|M<|B b fun am an b=>W.idx (α:=GParam) c rfl rfl el156 an ?_
   rintro bd _ ao rfl
   refine Fc ?_
   have ap:=At.add ao 1 (by simp)
   refine Lq S ap<|B b fun be aq b=>W.call S rfl (zIr S.holds am.fValue aq) ?_
   rintro bf bg ar au S rfl
   have c:=c.up au
   refine M ?_
   refine Ex ?_
   refine Ex<|A<|A<|We<|Ws<|Wg<|M<|No<|We ?_
   rcases condE b with ⟨ab,b⟩ | ⟨ab,b⟩
   ·refine CT ab<|Ws<|Wg ?_
    refine WL.w (R.build [] [(str []),(int 0)] bp147 zJa rfl rfl) ?_
    refine W.store (i:=0) [(str []),(int 0)] S rfl rfl rfl zGg rfl rfl (Nat.le_of_ble_eq_true rfl) rfl ?_
    intro bh S
    refine A<|We ?_
    obtain rfl:=oi b
    obtain rfl:=oi h
    refine WP.ret (Out.two rfl S (Res.cellB (i:=0) (cs:=[(str []),(int 0)]) S rfl rfl zGg rfl rfl) rfl ?_)
    exact rfl
   refine CF ab<|Wk<|Wg<|M<|M<|B b fun bi av b=>W.subHi (α:=GParam) c rfl rfl el156 av ?_
   intro aw ax
   refine A<|We ?_
   obtain rfl:=oi b
   exact ⟨ar,aw,rfl,rfl,rfl,rfl,rfl,ax,S⟩
  refine CF aa<|Wk ?_
  obtain rfl:=oi b
  exact ⟨ak,u8,rfl,rfl,rfl,rfl,rfl,c,S⟩
 intro f w hM
 rcases ad with ⟨u,d⟩ | e
 ·obtain ⟨x,z,ay,ae,az,a0,a1,a2,S⟩:=hM
  refine Ws<|Wg<|M' ay<|M' az<|M' a0<|B h fun k a3 h=>W.call S rfl (zIZ S.holds j q.1 u a2 a3) ?_
  rintro bj bk bn bo S rfl
  refine M ?_
  refine Ex ?_
  refine Ex<|A<|A<|We<|Ws<|Wg<|M<|M' a1 ?_
  refine WL.w (R.build [(0,(str k.1)),(1,(int d))] [(str k.1),(int d)] bp147 zJa rfl rfl)<|M ?_
  refine W.store (i:=0) [(str k.1),(int d)] S ae rfl rfl zGg rfl rfl (Nat.le_of_ble_eq_true rfl) rfl ?_
  intro bp S
  refine A<|We ?_
  obtain rfl:=oi h
  refine WP.ret (Out.two rfl S (Res.cellB (i:=0) (cs:=[(str k.1),(int d)]) S ae rfl zGg rfl rfl) rfl ?_)
  exact rfl
 exact hM.elim
theorem zI2 {u:World} {p:Hp} (hw:Holds u p) (q:Int) (z:(List GField)) {ap:Value} (k:Sl p ap z) {r:((List GPref)×Bool)} (h:zEW q z=some r) :
  Con Tryz.prog 142 [(int q),ap] u p (fun H' v=>∃ u1:Value,v=(.tuple ⟨[u1,(boo r.2)]⟩)∧Sl H' u1 r.1):=by
 refine CM 43 Tryz.func142 hw fun S=>?_
 refine Ws<|Wg<|A<|A<|We<|Ws<|Wg<|M<|B h fun r1 ax h=>W.call S rfl (zC8 S.holds q ax) ?_
 rintro v2 w3 H4 ay S rfl
 have k:=k.up ay
 refine A<|We<|Ws<|Ws<|Wg<|M<|Na<|M<|B h fun az l h=>WL.grpw 5 [17,18,19,20] 21 (boo az) (fun w=>∃ H':Hp,H4.le H'∧St u p w H' []) ?_ ?_
 ·rcases boolE (r1==[]) with c | c
  ·replace l:=condT l c
   refine Gn c<|Gn c<|Gn c<|Gn c<|Pt c ?_
   exact We ⟨(ob l),ag,⟨H4,lr,S⟩⟩
  replace l:=condF l c
  refine Gy c<|M<|Gy c<|M<|Gy c<|B l fun r8 a0 l=>W.call S rfl (zGQ S.holds z r1 k a0) ?_
  rintro v9 bs a1 au S rfl
  have k:=k.up au
  refine Gy c<|No<|Pf c ?_
  exact We ⟨(ob l),ag,⟨a1,au,S⟩⟩
 intro us bt ⟨bu,a2,S⟩
 have k:=k.up a2
 refine We ?_
 rcases condE h with ⟨ad,h⟩ | ⟨ad,h⟩
 ·refine CT ad<|Ws<|Wg<|A<|A<|We ?_
  obtain rfl:=oi h
  refine WP.ret (Out.two rfl S rfl rfl ?_)
  exact ⟨_,rfl,Sl.nil⟩
 refine CF ad<|Wk<|Ws<|Wg<|A<|We<|Ws<|Ws<|Wg<|M<|M<|B h fun ae a3 h=>W.call S rfl (zHT S.holds z r1 k a3) ?_
 rintro av bv a4 bw S d
 refine Nq d<|M<|We ?_
 have S:=S.addNil 147 2
 refine B h fun af a5 h=>WP.cut (fun f w=>∃ (ah:Hp) (aa:Value),f 7=aa∧Sl ah aa af∧St u p w ah [.row aa 147 2 af.length]) ?_ ?_
 ·refine Wb ?_
  refine WP.loopM (zCW q ae) (fun s f w=>match s with | (ai,aw)=>∃ (x:Hp) (t:Value),f 0=(int q)∧f 7=t∧f 24=av∧f 25=(int (ae.length:Int))∧f 26=(int aw)∧Sl x t ai∧Sl x av ae∧St u p w x [.row t 147 2 ai.length]) (([]:List GPref),0) af a5 ?_ ?_
  ·exact ⟨a4,.slice none 0 0,rfl,rfl,rfl,rfl,rfl,Sl.nil,d,S⟩
  intro s f w hI bx b a6
  obtain ⟨ai,aw⟩:=s
  obtain ⟨x,t,aj,ak,al,am,ab,j,d,S⟩:=hI
  refine Ws<|Wg<|La' ab am<|We<|Ws ?_
  rcases condE b with ⟨an,b⟩ | ⟨an,b⟩
  ·refine CT an<|Wk<|Ws<|Wb<|Ws<|Wg<|B b fun a7 a8 b=>W.idx (α:=Str) d al ab el34 a8 ?_
   rintro bz _ a9 rfl
   refine Lq S a9<|A<|We<|Ws<|Wg<|M' aj<|M<|B b fun o ba b=>W.call S rfl (zJL S.holds q a7 ba) ?_
   rintro b0 b1 bb bc S rfl
   have ⟨j,d⟩:=U2 bc j d
   refine M ?_
   refine Ex ?_
   refine Ex ?_
   refine W.alloc [(str []),(int 0)] S zJa ?_
   intro b2 b3 S
   refine W.store (i:=0) [(str o.1.fRange),(int o.1.fQ)] S rfl rfl rfl zGg rfl rfl (Nat.le_of_ble_eq_true rfl) rfl ?_
   intro b4 S
   refine A<|We<|Ws<|Wg<|M<|We ?_
   rcases condE b with ⟨ao,b⟩ | ⟨ao,b⟩
   ·refine CT ao<|Wg<|M' ak ?_
    refine WL.w (R.loadBN (i:=0) (vs:=[(str o.1.fRange),(int o.1.fQ)]) S rfl rfl zGg rfl rfl)<|W.bslice (α:=GPref) [(agg [(str o.1.fRange),(int o.1.fQ)])] ([o.1]:List GPref) S el122 rfl rfl rfl (by decide) (Go.Eng.encS ⟨rfl,rfl⟩ enc0) ?_
    intro b5 b6 b7 bd be S
    have ⟨j,d⟩:=U2 bd j d
    refine B b fun b8 bf b=>W.app (α:=GPref) (i:=2) S el122 rfl rfl rfl j be bf ?_
    intro bg b9 bh bi bj S
    have ⟨j,d⟩:=U2 bi j d
    refine A<|We<|Wg<|Lg' ab rfl<|M<|We ?_
    obtain rfl:=oi b
    exact ⟨rfl,⟨bh,bg,aj,rfl,al,am,rfl,bj,d,(S.pk [2])⟩⟩
   refine CF ao<|Wk<|Wg<|Lg' ab rfl<|M<|We ?_
   obtain rfl:=oi b
   exact ⟨rfl,⟨bb,t,aj,ak,al,am,rfl,j,d,(S.pk [1])⟩⟩
  refine CF an<|Wx ?_
  obtain rfl:=oi b
  obtain rfl:=a6
  exact ⟨x,t,ak,j,S⟩
 rintro f w ⟨ah,aa,bk,bn,S⟩
 refine Ws<|Wg<|M' bk<|A<|A<|We ?_
 obtain rfl:=oi h
 refine WP.ret (Out.two rfl S rfl rfl ?_)
 exact ⟨_,rfl,bn⟩
theorem zGk {q:World} {o:Hp} (hw:Holds q o) (t:(List GParam)) (d:GParam) {u:Value} (j:Sl o u t) {r:Bool} (h:zCS t d=some r) :
  Cb Tryz.prog 259 [u,(agg [(str d.fName),(str d.fValue)])] q o r:=by
 refine CM 26 Tryz.func259 hw fun S=>?_
 refine Ws<|Wg ?_
 refine W.box [(str d.fName),(str d.fValue)] S rfl rfl ?_
 intro v w2 S
 refine A<|We<|Ws<|Ws<|Wg<|M<|Nq j<|M<|We<|B h fun x ak h=>WP.cut (fun f w=>match x with | .inl _=>∃ (H9:Hp),St q o w H9 [] | .inr _=>False) ?_ ?_
 ·refine Wb ?_
  refine WP.loopM (zBD t d) (fun s f w=>match s with | ae=>∃ (p:Hp),f 3=(ptr v 0)∧f 7=u∧f 8=(int (t.length:Int))∧f 9=(int ae)∧Sl p u t∧St q o w p [.box v 161 [(str d.fName),(str d.fValue)]]) 0 x ak ?_ ?_
  ·exact ⟨o,rfl,rfl,rfl,rfl,j,S⟩
  intro ae f w hI aw c af
  obtain ⟨p,z,h5,h6,h8,j,S⟩:=hI
  refine Ws<|Wg<|La' h8 h6<|We<|Ws ?_
  rcases condE c with ⟨ab,c⟩ | ⟨ab,c⟩
  ·refine CT ab<|Wk<|Ws<|Wb<|Ws<|Wg<|B c fun k al c=>W.idx (α:=GParam) j h5 h8 el156 al ?_
   rintro ax _ am rfl
   refine WL.w (R.loadHN (vs:=[(str k.fName),(str k.fValue)]) S rfl am zGm rfl rfl) ?_
   refine W.alloc [(str []),(str [])] S zJb ?_
   intro an ay S
   refine W.store (i:=0) [(str k.fName),(str k.fValue)] S rfl rfl rfl zGm rfl rfl (Nat.le_of_ble_eq_true rfl) rfl ?_
   intro az S
   refine We<|Ws<|Wg<|Fb ?_
   refine Lo 0 S<|Fb' z ?_
   refine Lo 1 S<|Na<|M<|B c fun ao l c=>WL.grpw 6 [19,20,21,22,23] 24 (boo ao) (fun w=>∃ H':Hp,p.le H'∧St q o w H' [.box an 161 [(str k.fName),(str k.fValue)],.box v 161 [(str d.fName),(str d.fValue)]]) ?_ ?_
   ·rcases boolE (k.fName==d.fName) with b | b
    ·replace l:=condT l b
     refine Gy b<|Fb<|Gy b ?_
     refine Lo 0 S<|Gy b<|Fb' z<|Gy b ?_
     refine Lo 1 S<|Gy b<|B l fun a0 ap l=>W.call S rfl (zCs S.holds k.fValue d.fValue ap) ?_
     rintro a1 a2 aq aj S rfl
     have j:=j.up aj
     refine Pt b ?_
     exact We ⟨(ob l),ag,⟨aq,aj,S⟩⟩
    replace l:=condF l b
    refine Gn b<|Gn b<|Gn b<|Gn b<|Gn b<|Pf b ?_
    exact We ⟨(ob l),ag,⟨p,lr,S⟩⟩
   intro us a3 ⟨ar,au,S⟩
   have j:=j.up au
   refine We ?_
   rcases condE c with ⟨ac,c⟩ | ⟨ac,c⟩
   ·refine CT ac<|Ws<|Wg<|A<|We ?_
    obtain rfl:=oi c
    obtain rfl:=af
    exact WP.ret (Rb h S)
   refine CF ac<|Wk<|Wg<|Lg' h8 rfl<|M<|We ?_
   obtain rfl:=oi c
   exact ⟨rfl,⟨ar,z,h5,h6,rfl,j,(S.pk [1])⟩⟩
  refine CF ab<|Wx ?_
  obtain rfl:=oi c
  obtain rfl:=af
  exact ⟨p,(S.pk [])⟩
 intro f w hM
 rcases x with _ | e
 ·obtain ⟨H9,S⟩:=hM
  refine Ws<|Wg<|A<|We ?_
  exact WP.ret (Rb h S)
 exact hM.elim
theorem zHp {z:World} {q:Hp} (hw:Holds z q) (b:GMediaType) (c:GMediaType) {p:Value} {v:Value} (o:Sl q p b.fParams) (u:Sl q v c.fParams) {r:Int} (h:zDn b c=some r) :
  Ci Tryz.prog 250 [(agg [(str b.fType),(str b.fSub),p]),(agg [(str c.fType),(str c.fSub),v])] z q r:=by
 refine CM 57 Tryz.func250 hw fun S=>?_
 refine Ws<|Wg ?_
 refine W.box [(str b.fType),(str b.fSub),p] S rfl rfl ?_
 intro b1 w2 S
 refine W.box [(str c.fType),(str c.fSub),v] S rfl rfl ?_
 intro b3 w4 S
 refine A<|We<|Ws<|Wb<|Ws<|Wg<|Fb ?_
 refine Lo 1 S<|Na<|M ?_
 refine WL.grp 4 [12,13,14] 15 (boo ((b.fType==[42])&&(b.fSub==[42]))) ?_ ?_
 ·rcases boolE (b.fType==[42]) with l | l
  ·refine Gy l<|Fb<|Gy l ?_
   refine Lo 1 S<|Gy l<|Na<|Pt l ?_
   exact We ⟨(andT l),ag,rfl⟩
  refine Gn l<|Gn l<|Gn l<|Pf l ?_
  exact We ⟨(andF l),ag,rfl⟩
 intro us
 refine A<|We ?_
 rcases condE h with ⟨ab,h⟩ | ⟨ab,h⟩
 ·refine CT ab<|Ws<|Wg<|A<|We ?_
  exact WP.ret (Ri h S)
 refine CF ab<|Ws<|Wg<|Fb ?_
 refine Lo 1 S<|Na<|M ?_
 refine WL.grp 6 [21,22,23,24,25] 26 (boo ((b.fSub==[42])&&(b.fType==c.fType))) ?_ ?_
 ·rcases boolE (b.fSub==[42]) with d | d
  ·refine Gy d<|Fb<|Gy d ?_
   refine Lo 1 S<|Gy d<|Fb<|Gy d ?_
   refine Lo 0 S<|Gy d<|Na<|Pt d ?_
   exact We ⟨(andT d),ag,rfl⟩
  refine Gn d<|Gn d<|Gn d<|Gn d<|Gn d<|Pf d ?_
  exact We ⟨(andF d),ag,rfl⟩
 intro us
 refine A<|We ?_
 rcases condE h with ⟨ac,h⟩ | ⟨ac,h⟩
 ·refine CT ac<|Ws<|Wg<|A<|We ?_
  exact WP.ret (Ri h S)
 refine CF ac<|Ws<|Wg<|Fb ?_
 refine Lo 1 S<|Fb ?_
 refine Lo 0 S<|Nb<|M ?_
 refine WL.grp 6 [34,35,36,37,38] 39 (boo ((b.fType !=c.fType)||(b.fSub !=c.fSub))) ?_ ?_
 ·rcases boolE (b.fType !=c.fType) with j | j
  ·refine Gn j<|Gn j<|Gn j<|Gn j<|Gn j<|Pt j ?_
   exact We ⟨(orT j),ag,rfl⟩
  refine Gy j<|Fb<|Gy j ?_
  refine Lo 1 S<|Gy j<|Fb<|Gy j ?_
  refine Lo 0 S<|Gy j<|Nb<|Pf j ?_
  exact We ⟨(orF j),ag,rfl⟩
 intro us
 refine A<|We ?_
 rcases condE h with ⟨ad,h⟩ | ⟨ad,h⟩
 ·refine CT ad<|Ws<|Wg<|A<|We ?_
  exact WP.ret (Ri h S)
 refine CF ad<|Wk<|Ws<|Ws<|Wg<|Fb ?_
 refine Lo 1 S<|Nq o<|M<|We<|B h fun ae ar h=>WP.cut (fun f w=>match ae with | .inl _=>∃ (af:Hp),f 2=(ptr b1 0)∧Sl af p b.fParams∧St z q w af [.box b1 158 [(str b.fType),(str b.fSub),p]] | .inr _=>False) ?_ ?_
 ·refine Wb ?_
  refine WP.loopM (zBg b c) (fun s f w=>match s with | al=>∃ (x:Hp),f 2=(ptr b1 0)∧f 3=(ptr b3 0)∧f 41=p∧f 42=(int (b.fParams.length:Int))∧f 43=(int al)∧Sl x p b.fParams∧Sl x v c.fParams∧St z q w x [.box b3 158 [(str c.fType),(str c.fSub),v],.box b1 158 [(str b.fType),(str b.fSub),p]]) 0 ae ar ?_ ?_
  ·exact ⟨q,rfl,rfl,rfl,rfl,rfl,o,u,S⟩
  intro al f w hI a2 k am
  obtain ⟨x,an,ao,ap,aq,ah,o,u,S⟩:=hI
  refine Ws<|Wg<|La' ah aq<|We<|Ws ?_
  rcases condE k with ⟨ai,k⟩ | ⟨ai,k⟩
  ·refine CT ai<|Wk<|Ws<|Wb<|Ws<|Wg<|B k fun t au k=>W.idx (α:=GParam) o ap ah el156 au ?_
   rintro a3 _ av rfl
   refine WL.w (R.loadHN (vs:=[(str t.fName),(str t.fValue)]) S rfl av zGm rfl rfl) ?_
   refine W.alloc [(str []),(str [])] S zJb ?_
   intro a4 a5 S
   refine W.store (i:=0) [(str t.fName),(str t.fValue)] S rfl rfl rfl zGm rfl rfl (Nat.le_of_ble_eq_true rfl) rfl ?_
   intro a6 S
   refine We<|Ws<|Wg<|Fb' ao ?_
   refine Lo 1 S ?_
   refine WL.w (R.loadBN (i:=0) (vs:=[(str t.fName),(str t.fValue)]) S rfl rfl zGm rfl rfl)<|B k fun a7 aw k=>W.call S rfl (zGk S.holds c.fParams t u aw) ?_
   rintro a8 a9 ax ay S rfl
   have ⟨o,u⟩:=U2 ay o u
   refine No<|We ?_
   rcases condE k with ⟨aj,k⟩ | ⟨aj,k⟩
   ·refine CT aj<|Ws<|Wg<|A<|We ?_
    obtain rfl:=oi k
    obtain rfl:=am
    exact WP.ret (Ri h S)
   refine CF aj<|Wk<|Wg<|Lg' ah rfl<|M<|We ?_
   obtain rfl:=oi k
   exact ⟨rfl,⟨ax,an,ao,ap,aq,rfl,o,u,(S.pk [1,2])⟩⟩
  refine CF ai<|Wx ?_
  obtain rfl:=oi k
  obtain rfl:=am
  exact ⟨x,an,o,(S.pk [1])⟩
 intro f w hM
 rcases ae with _ | e
 ·obtain ⟨af,az,o,S⟩:=hM
  refine Ws<|Wg<|Fb' az ?_
  refine Lo 0 S<|Nq o<|Lg<|A<|We ?_
  exact WP.ret (Ri h S)
 exact hM.elim
theorem zFe {i:World} {j:Hp} (hw:Holds i j) (d:Str) (f:Str) {r:Bool} (h:zBh d f=some r) :
  Cb Tryz.prog 268 [(str d),(str f)] i j r:=by
 refine CM 18 Tryz.func268 hw fun S=>?_
 refine Ws<|Wg<|A<|We<|Ws<|Wg<|M<|Ns<|M<|Ns<|Ld<|M<|B h fun k c h=>WL.grp 7 [11,12,13,14,15,16] 17 (boo k) ?_ ?_
 ·rcases boolE (decide ((f.length:Int)≤(d.length:Int))) with b | b
  ·replace c:=condT c b
   refine Gy b<|M<|Gy b<|M<|Gy b<|Ns<|Gy b<|B c fun o l c=>Jd l<|Gy b<|M<|Gy b<|Na<|Pt b ?_
   exact We ⟨(ob c),ag,rfl⟩
  replace c:=condF c b
  refine Gn b<|Gn b<|Gn b<|Gn b<|Gn b<|Gn b<|Pf b ?_
  exact We ⟨(ob c),ag,rfl⟩
 intro us
 refine A<|We ?_
 exact WP.ret (Rb h S)
theorem zG8 {d:World} {f:Hp} (hw:Holds d f) (b:Str) (c:Str) {r:Bool} (h:zD2 b c=some r) :
  Cb Tryz.prog 260 [(str b),(str c)] d f r:=by
 refine CM 8 Tryz.func260 hw fun S=>?_
 refine Ws<|Wg<|A<|We<|Ws<|Wg<|M<|M<|B h fun j i h=>W.call S rfl (zFe S.holds b c i) ?_
 rintro k l o p S rfl
 refine A<|We ?_
 exact WP.ret (Rb h S)
end Go.Proofs
