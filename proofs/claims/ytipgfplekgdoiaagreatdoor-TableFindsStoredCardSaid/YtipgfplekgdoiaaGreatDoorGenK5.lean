/- A part. -/
import Derived.Test.YtipgfplekgdoiaaGreatDoorEng38
import Derived.Test.YtipgfplekgdoiaaGreatDoorEng33
import Derived.Test.YtipgfplekgdoiaaGreatDoorGenK4
namespace Go.Proofs
set_option maxHeartbeats 4000000
set_option maxRecDepth 10000
open Go.Eng Go.Eng.Pure
set_option linter.unusedVariables false
theorem zKW {p:World} {q:Hp} (hw:Holds p q) (j:Str) {r:Str} (h:zIO j=some r) :
  Cs Tryz.prog 265 [(str j)] p q r:=by
 refine CM 35 Tryz.func265 hw fun S=>?_
 refine Ws<|Wg<|A<|We<|Ws<|Wg<|W.bslice (α:=UInt8) [(byt 34)] ([34]:List UInt8) S el128 rfl rfl rfl (by decide) (Go.Eng.encS ⟨rfl,rfl⟩ enc0) ?_
 intro u1 w2 H3 br R5 S
 refine A<|We<|Ws<|Ws<|Wg<|M<|Ns<|M<|We<|B h fun ab av h=>WP.cut (fun f w=>∃ (ac:Hp) (u:Value),f 3=u∧Sl ac u ab∧St p q w ac [.row u 5 1 ab.length]) ?_ ?_
 ·refine Wb ?_
  refine WP.loopM (zH9 j) (fun s f w=>match s with | (ad,v)=>∃ (t:Hp) (o:Value),f 0=(str j)∧f 3=o∧f 7=(int (j.length:Int))∧f 8=(int v)∧Sl t o ad∧St p q w t [.row o 5 1 ad.length]) (([34]:List UInt8),0) ab av ?_ ?_
  ·exact ⟨H3,u1,rfl,rfl,rfl,rfl,R5,S⟩
  intro s f w hI bs b aw
  obtain ⟨ad,v⟩:=s
  obtain ⟨t,o,x,ae,af,z,k,S⟩:=hI
  refine Ws<|Wg<|La' z af<|We<|Ws ?_
  rcases condE b with ⟨ah,b⟩ | ⟨ah,b⟩
  ·refine CT ah<|Wk<|Ws<|Wb<|Ws<|Wg<|M' z<|A<|We<|Ws<|Ws<|Wg ?_
   refine M' x<|M<|B b fun am ax b=>Ja ax<|Me am 34<|M<|B b fun ay d b=>WL.grp 5 [16,17,18,19] 20 (boo ay) ?_ ?_
   ·rcases boolE (am==34) with c | c
    ·replace d:=condT d c
     refine Gn c<|Gn c<|Gn c<|Gn c<|Pt c ?_
     exact We ⟨(ob d),ag,rfl⟩
    replace d:=condF d c
    refine Gy c<|M' x<|Gy c<|M<|Gy c<|B d fun az a0 d=>Ja a0<|Gy c<|Me az 92<|Pf c ?_
    exact We ⟨(ob d),ag,rfl⟩
   intro us
   refine We<|B b fun an l b=>WP.cut (fun f w=>∃ (ai:Hp) (aa:Value),f 0=(str j)∧f 3=aa∧f 4=(int v)∧f 7=(int (j.length:Int))∧f 8=(int v)∧Sl ai aa an∧St p q w ai [.row aa 5 1 an.length]) ?_ ?_
   ·rcases condE l with ⟨aj,l⟩ | ⟨aj,l⟩
    ·refine CT aj<|Wg<|M' ae<|W.bslice (α:=UInt8) [(byt 92)] ([92]:List UInt8) S el128 rfl rfl rfl (by decide) (Go.Eng.encS ⟨rfl,rfl⟩ enc0) ?_
     intro bt bu bv a1 a2 S
     have k:=k.up a1
     refine B l fun bw a3 l=>W.app (α:=UInt8) (i:=1) S el128 rfl rfl rfl k a2 a3 ?_
     intro a4 bx a5 a6 a7 S
     have k:=k.up a6
     refine A<|We ?_
     cases l
     exact ⟨a5,a4,x,rfl,rfl,af,z,a7,(S.drop _ (.cons _ (.cons_cons _ .slnil)))⟩
    refine CF aj<|Wk ?_
    cases l
    exact ⟨t,o,x,ae,rfl,af,z,k,S⟩
   rintro f w ⟨ai,aa,ao,a8,a9,ba,bb,ak,S⟩
   refine Wg<|M' a8<|M' ao<|M' a9<|B b fun ap bc b=>Ja bc<|W.bslice (α:=UInt8) [(byt ap)] ([ap]:List UInt8) S el128 rfl rfl rfl (by decide) (Go.Eng.encS ⟨rfl,rfl⟩ enc0) ?_
   intro bz b0 b1 bd be S
   have ak:=ak.up bd
   refine B b fun b2 bf b=>W.app (α:=UInt8) (i:=1) S el128 rfl rfl rfl ak be bf ?_
   intro bg b3 bh b4 bi S
   refine A<|We<|Wg<|Lg' bb rfl<|M<|We ?_
   cases b
   exact ⟨rfl,⟨bh,bg,ao,rfl,ba,rfl,bi,(S.drop _ (.cons _ (.cons_cons _ .slnil)))⟩⟩
  refine CF ah<|Wx ?_
  cases b
  obtain rfl:=aw
  exact ⟨t,o,ae,k,S⟩
 rintro f w ⟨ac,u,bj,al,S⟩
 refine Ws<|Wg<|M' bj<|W.bslice (α:=UInt8) [(byt 34)] ([34]:List UInt8) S el128 rfl rfl rfl (by decide) (Go.Eng.encS ⟨rfl,rfl⟩ enc0) ?_
 intro b5 b6 b7 bk bn S
 have al:=al.up bk
 refine B h fun b8 bo h=>W.app (α:=UInt8) (i:=1) S el128 rfl rfl rfl al bn bo ?_
 intro b9 ca cb cc bp S
 refine WL.w (R.strL S bp rfl Tryz.underlying128 Tryz.underlying9 Tryz.underlying5)<|A<|We ?_
 exact WP.ret (Rs h S)
theorem zD6 {f ws:World} {j Hs:Hp} {k:List Ent} (s0_buf:(List UInt8)) {d:Value} {c:Nat} (S:St f j ws Hs (.box c 186 [(.pointer none),d] :: .row d 5 1 s0_buf.length :: k)) (R0_1:Sl Hs d s0_buf) {r:Unit} (h:zE2 s0_buf=some r) :
  ConS Tryz.prog 213 [(ptr c 0)] f j ws Hs k (fun H' v L'=>∃ l:Value,L'=[.box c 186 [(ptr c 0),l],.row l 5 1 s0_buf.length]∧v=(.tuple #[])∧Sl H' l s0_buf):=by
 refine ConS.mk (N:=20) Tryz.func213 rfl rfl kr rfl<|Ws<|Wg<|M<|Nn<|Fb ?_
 refine Lo 0 S ?_
 refine WL.w (v:=boo true) (R.ofEq (R.eqlPN rfl rfl Tryz.underlying184) rfl)<|We<|WP.condT (b:=true) rfl rfl<|Wg<|M ?_
 refine M ?_
 refine WL.w (R.toUnsafe (i:=0) S rfl rfl Tryz.underlying184 Tryz.underlying232 zRH (by decide) (by simp))<|W.noEscape Tryz.func239 rfl rfl kr kr rfl ?_
 refine WL.w (R.fromUnsafe (i:=0) S rfl rfl Tryz.underlying232 Tryz.underlying184 zRO zSQ (by simp))<|Nn<|Fb ?_
 refine W.store (i:=0) [(ptr c 0),d] S rfl rfl rfl zRQ rfl rfl (Nat.le_of_ble_eq_true rfl) rfl ?_
 intro o S
 refine We ?_
 cases h
 have S3:=S
 have S3:=S3.front 1 rfl
 have S3:=S3.front 1 rfl
 replace S3:St f j _ Hs (.box c 186 [(ptr c 0),d] :: .row d 5 1 s0_buf.length :: k):=S3.drop _ (.cons_cons _ (.cons_cons _ (.refl _)))
 refine (OutS.zero (L':=[.box c 186 [(ptr c 0),d],.row d 5 1 s0_buf.length]) (.inr rfl) rfl lr S3 ?_)
 exact ⟨_,rfl,rfl,R0_1⟩
theorem zDw {f ws:World} {i Hs:Hp} {j:List Ent} (s0_buf:(List UInt8)) {d:Value} {c:Nat} (S:St f i ws Hs (.box c 186 [(ptr c 0),d] :: .row d 5 1 s0_buf.length :: j)) (R0_1:Sl Hs d s0_buf) {r:Unit} (h:zEe s0_buf=some r) :
  ConS Tryz.prog 213 [(ptr c 0)] f i ws Hs j (fun H' v L'=>∃ k:Value,L'=[.box c 186 [(ptr c 0),k],.row k 5 1 s0_buf.length]∧v=(.tuple #[])∧Sl H' k s0_buf):=by
 refine ConS.mk (N:=20) Tryz.func213 rfl rfl kr rfl<|Ws<|Wg<|M<|Nn<|Fb ?_
 refine Lo 0 S ?_
 refine WL.w (v:=boo false) (R.ofEq (R.eqlPN rfl rfl Tryz.underlying184) rfl)<|We<|WP.condF (b:=false) rfl rfl<|Ws<|Wg ?_
 refine M<|Nn<|Fb ?_
 refine Lo 0 S<|M ?_
 refine WL.w (R.neqPS rfl rfl Tryz.underlying184 zRO)<|We<|WP.condF (b:=false) rfl rfl<|Wk ?_
 cases h
 have S3:=S
 have S3:=S3.front 1 rfl
 have S3:=S3.front 1 rfl
 replace S3:St f i _ Hs (.box c 186 [(ptr c 0),d] :: .row d 5 1 s0_buf.length :: j):=S3.drop _ (.cons_cons _ (.cons_cons _ (.refl _)))
 refine (OutS.zero (L':=[.box c 186 [(ptr c 0),d],.row d 5 1 s0_buf.length]) (.inr rfl) rfl lr S3 ?_)
 exact ⟨_,rfl,rfl,R0_1⟩
theorem zDO {l ws:World} {o Hs:Hp} {p:List Ent} (s0_buf:List UInt8) {c va0:Value} {b:Nat} (S:St l o ws Hs (.box b 186 [va0,c] :: .row c 5 1 s0_buf.length :: p)) (R0_1:Sl Hs c s0_buf) (q:va0=Value.pointer none∨va0=ptr b 0) {r:Unit} (h:zA3 s0_buf=some r) :
  ConS Tryz.prog 213 [(ptr b 0)] l o ws Hs p (fun H' v L'=>∃ d f:Value,L'=[.box b 186 [d,f],.row f 5 1 s0_buf.length]∧v=(.tuple #[])∧(d=Value.pointer none∨d=ptr b 0)∧Sl H' f s0_buf):=by
 rcases q with rfl | rfl
 ·exact ConS.mono (zD6 s0_buf S R0_1 rfl) fun H' v L' ⟨u,i,j,k⟩=>⟨_,u,i,j,.inr rfl,k⟩
 exact ConS.mono (zDw s0_buf S R0_1 rfl) fun H' v L' ⟨u,i,j,k⟩=>⟨_,u,i,j,.inr rfl,k⟩
theorem zAd {c ws:World} {d Hs:Hp} {f:List Ent} (q:Str) (s0_buf:(List UInt8)) {j:Value} {va0:Value} {b:Nat} (S:St c d ws Hs (.box b 186 [va0,j] :: .row j 5 1 s0_buf.length :: f)) (R0_1:Sl Hs j s0_buf) (z:va0=Value.pointer none∨va0=ptr b 0) {r:(Int×Unit×(List UInt8))} (h:zAN q s0_buf=some r) :
  ConS Tryz.prog 180 [(ptr b 0),(str q)] c d ws Hs f (fun H' v L'=>∃ o p:Value,L'=[.box b 186 [o,p],.row p 5 1 r.2.2.length]∧v=(.tuple ⟨[(int r.1),.nilIface]⟩)∧(o=Value.pointer none∨o=ptr b 0)∧Sl H' p r.2.2):=by
 refine ConS.mk (N:=19) Tryz.func180 rfl rfl kr rfl<|Ws<|Wg<|A<|A<|We<|Ws<|Wg<|M ?_
 replace S:=S.front 1 rfl
 replace S:=S.front 1 rfl
 replace S:St c d _ Hs (.box b 186 [va0,j] :: .row j 5 1 s0_buf.length :: f):=S
 refine B h fun r1 aa h=>W.callS rfl (zDO s0_buf S R0_1 z aa) ?_
 rintro v2 w3 H4 L6 ac S ⟨l,t,rfl,rfl,ad,ae⟩
 replace S:St c d _ H4 (.box b 186 [l,t] :: .row t 5 1 s0_buf.length :: f):=S
 refine We<|Ws<|Wg<|M<|M<|Nn<|Fb ?_
 refine Lo 0 S<|M<|B h fun u af h=>W.appStr (i:=1) S el128 Tryz.underlying9 rfl rfl rfl ae af ?_
 intro k an ah ai x S
 refine Nn<|Fb ?_
 refine W.storeSl (α:=UInt8) (i:=0) [l,k] S x rfl rfl rfl zRM (Nat.le_of_ble_eq_true rfl) rfl ?_
 intro ao S
 refine We<|Ws<|Wg<|M<|Ns<|A<|A<|We ?_
 cases h
 have S3:=S
 have S3:=S3.front 1 rfl
 have S3:=S3.front 1 rfl
 replace S3:St c d _ ah (.box b 186 [l,k] :: .row k 5 1 u.length :: f):=S3.drop _ (.cons_cons _ (.cons_cons _ (.refl _)))
 refine WP.ret (OutS.two (L':=[.box b 186 [l,k],.row k 5 1 u.length]) rfl (ac.trans ai) S3 rfl rfl ?_)
 exact ⟨_,_,rfl,rfl,ad,x⟩
theorem zDt {f ws:World} {k Hs:Hp} {l:List Ent} (s0_buf:(List UInt8)) {c:Value} {va0:Value} {b:Nat} (S:St f k ws Hs (.box b 186 [va0,c] :: .row c 5 1 s0_buf.length :: l)) (R0_1:Sl Hs c s0_buf) (t:va0=Value.pointer none∨va0=ptr b 0) {r:Str} (h:zBK s0_buf=some r) :
  ConS Tryz.prog 181 [(ptr b 0)] f k ws Hs l (fun H' v L'=>L'=[.box b 186 [va0,c]]∧v=(str r)):=by
 refine ConS.mk (N:=14) Tryz.func181 rfl rfl kr rfl<|Ws<|Wg<|A<|We<|Ws<|WP.draw kr 12 rfl (bm 12 0) rfl ?_
 have S:=S.drew
 refine At_ 0 12 1 rfl (fun _=>(R.mv (v:=ptr b 0) rfl)) ?_
 refine At_ 5 12 33 rfl (fun _=>(R.mv (v:=ptr b 0) rfl)) ?_
 refine WA.two (i:=1) (j:=6) (bm 12 35) (bm 12 97) rfl rfl kr rfl rfl ?_ ?_
 ·refine Nn<|We ?_
  refine At_ 2 12 39 rfl (fun _=>(R.fieldB rfl zF3)) ?_
  refine WA.two (i:=3) (j:=6) (bm 12 47) (bm 12 103) rfl rfl kr rfl rfl ?_ ?_
  ·refine Lo 0 S<|We ?_
   refine WA.two (i:=4) (j:=6) (bm 12 63) (bm 12 111) rfl rfl kr rfl rfl ?_ ?_
   ·refine W.sliceData (i:=1) S rfl rfl Tryz.underlying212 ?_
    intro o p d S
    refine We<|WA.one (i:=6) (bm 12 127) rfl kr rfl<|Nn<|We ?_
    refine At_ 7 12 255 rfl (fun _=>(R.fieldB rfl zF3))<|WA.one (i:=8) (bm 12 511) rfl kr rfl ?_
    refine Lo 0 S<|We ?_
    refine At_ 9 12 1023 rfl (fun _=>(R.lenL (α:=UInt8) (xs:=s0_buf) (H:=Hs) R0_1 rfl Tryz.underlying128))<|WA.one (i:=10) (bm 12 2047) rfl kr rfl ?_
    refine W.strOf (i:=1) S rfl R0_1 d rfl rfl Tryz.underlying212 ceo5 ?_
    intro q S
    refine We ?_
    refine At_ 11 12 4095 rfl (fun _=>(R.as (v:=str s0_buf) rfl))<|WA.done kr ?_
    cases h
    have S3:=S
    have S3:=S3.front 0 rfl
    replace S3:St f k _ Hs (.box b 186 [va0,c] :: l):=S3.drop _ (.cons_cons _ (.refl _))
    refine WP.ret (OutS.one (L':=[.box b 186 [va0,c]]) rfl lr S3 rfl ?_)
    exact ⟨rfl,rfl⟩
   refine Nn<|We ?_
   refine At_ 7 12 239 rfl (fun _=>(R.fieldB rfl zF3)) ?_
   refine WA.two (i:=4) (j:=8) (bm 12 255) (bm 12 495) rfl rfl kr rfl rfl ?_ ?_
   ·refine W.sliceData (i:=1) S rfl rfl Tryz.underlying212 ?_
    intro o p d S
    refine We<|WA.one (i:=8) (bm 12 511) rfl kr rfl ?_
    refine Lo 0 S<|We ?_
    refine At_ 9 12 1023 rfl (fun _=>(R.lenL (α:=UInt8) (xs:=s0_buf) (H:=Hs) R0_1 rfl Tryz.underlying128))<|WA.one (i:=10) (bm 12 2047) rfl kr rfl ?_
    refine W.strOf (i:=1) S rfl R0_1 d rfl rfl Tryz.underlying212 ceo5 ?_
    intro q S
    refine We ?_
    refine At_ 11 12 4095 rfl (fun _=>(R.as (v:=str s0_buf) rfl))<|WA.done kr ?_
    cases h
    have S3:=S
    have S3:=S3.front 0 rfl
    replace S3:St f k _ Hs (.box b 186 [va0,c] :: l):=S3.drop _ (.cons_cons _ (.refl _))
    refine WP.ret (OutS.one (L':=[.box b 186 [va0,c]]) rfl lr S3 rfl ?_)
    exact ⟨rfl,rfl⟩
   refine Lo 0 S<|We ?_
   refine At_ 9 12 1007 rfl (fun _=>(R.lenL (α:=UInt8) (xs:=s0_buf) (H:=Hs) R0_1 rfl Tryz.underlying128))<|WA.one (i:=4) (bm 12 1023) rfl kr rfl<|W.sliceData (i:=1) S rfl rfl Tryz.underlying212 ?_
   intro o p d S
   refine We<|WA.one (i:=10) (bm 12 2047) rfl kr rfl ?_
   refine W.strOf (i:=1) S rfl R0_1 d rfl rfl Tryz.underlying212 ceo5 ?_
   intro q S
   refine We ?_
   refine At_ 11 12 4095 rfl (fun _=>(R.as (v:=str s0_buf) rfl))<|WA.done kr ?_
   cases h
   have S3:=S
   have S3:=S3.front 0 rfl
   replace S3:St f k _ Hs (.box b 186 [va0,c] :: l):=S3.drop _ (.cons_cons _ (.refl _))
   refine WP.ret (OutS.one (L':=[.box b 186 [va0,c]]) rfl lr S3 rfl ?_)
   exact ⟨rfl,rfl⟩
  refine Nn<|We ?_
  refine At_ 7 12 231 rfl (fun _=>(R.fieldB rfl zF3)) ?_
  refine WA.two (i:=3) (j:=8) (bm 12 239) (bm 12 487) rfl rfl kr rfl rfl ?_ ?_
  ·refine Lo 0 S<|We ?_
   refine WA.two (i:=4) (j:=8) (bm 12 255) (bm 12 495) rfl rfl kr rfl rfl ?_ ?_
   ·refine W.sliceData (i:=1) S rfl rfl Tryz.underlying212 ?_
    intro o p d S
    refine We<|WA.one (i:=8) (bm 12 511) rfl kr rfl ?_
    refine Lo 0 S<|We ?_
    refine At_ 9 12 1023 rfl (fun _=>(R.lenL (α:=UInt8) (xs:=s0_buf) (H:=Hs) R0_1 rfl Tryz.underlying128))<|WA.one (i:=10) (bm 12 2047) rfl kr rfl ?_
    refine W.strOf (i:=1) S rfl R0_1 d rfl rfl Tryz.underlying212 ceo5 ?_
    intro q S
    refine We ?_
    refine At_ 11 12 4095 rfl (fun _=>(R.as (v:=str s0_buf) rfl))<|WA.done kr ?_
    cases h
    have S3:=S
    have S3:=S3.front 0 rfl
    replace S3:St f k _ Hs (.box b 186 [va0,c] :: l):=S3.drop _ (.cons_cons _ (.refl _))
    refine WP.ret (OutS.one (L':=[.box b 186 [va0,c]]) rfl lr S3 rfl ?_)
    exact ⟨rfl,rfl⟩
   refine Lo 0 S<|We ?_
   refine At_ 9 12 1007 rfl (fun _=>(R.lenL (α:=UInt8) (xs:=s0_buf) (H:=Hs) R0_1 rfl Tryz.underlying128))<|WA.one (i:=4) (bm 12 1023) rfl kr rfl<|W.sliceData (i:=1) S rfl rfl Tryz.underlying212 ?_
   intro o p d S
   refine We<|WA.one (i:=10) (bm 12 2047) rfl kr rfl ?_
   refine W.strOf (i:=1) S rfl R0_1 d rfl rfl Tryz.underlying212 ceo5 ?_
   intro q S
   refine We ?_
   refine At_ 11 12 4095 rfl (fun _=>(R.as (v:=str s0_buf) rfl))<|WA.done kr ?_
   cases h
   have S3:=S
   have S3:=S3.front 0 rfl
   replace S3:St f k _ Hs (.box b 186 [va0,c] :: l):=S3.drop _ (.cons_cons _ (.refl _))
   refine WP.ret (OutS.one (L':=[.box b 186 [va0,c]]) rfl lr S3 rfl ?_)
   exact ⟨rfl,rfl⟩
  refine Lo 0 S<|We ?_
  refine At_ 9 12 999 rfl (fun _=>(R.lenL (α:=UInt8) (xs:=s0_buf) (H:=Hs) R0_1 rfl Tryz.underlying128))<|WA.one (i:=3) (bm 12 1007) rfl kr rfl ?_
  refine Lo 0 S<|We<|WA.one (i:=4) (bm 12 1023) rfl kr rfl<|W.sliceData (i:=1) S rfl rfl Tryz.underlying212 ?_
  intro o p d S
  refine We<|WA.one (i:=10) (bm 12 2047) rfl kr rfl ?_
  refine W.strOf (i:=1) S rfl R0_1 d rfl rfl Tryz.underlying212 ceo5 ?_
  intro q S
  refine We ?_
  refine At_ 11 12 4095 rfl (fun _=>(R.as (v:=str s0_buf) rfl))<|WA.done kr ?_
  cases h
  have S3:=S
  have S3:=S3.front 0 rfl
  replace S3:St f k _ Hs (.box b 186 [va0,c] :: l):=S3.drop _ (.cons_cons _ (.refl _))
  refine WP.ret (OutS.one (L':=[.box b 186 [va0,c]]) rfl lr S3 rfl ?_)
  exact ⟨rfl,rfl⟩
 refine Nn<|We ?_
 refine At_ 7 12 225 rfl (fun _=>(R.fieldB rfl zF3)) ?_
 refine WA.two (i:=1) (j:=8) (bm 12 227) (bm 12 481) rfl rfl kr rfl rfl ?_ ?_
 ·refine Nn<|We ?_
  refine At_ 2 12 231 rfl (fun _=>(R.fieldB rfl zF3)) ?_
  refine WA.two (i:=3) (j:=8) (bm 12 239) (bm 12 487) rfl rfl kr rfl rfl ?_ ?_
  ·refine Lo 0 S<|We ?_
   refine WA.two (i:=4) (j:=8) (bm 12 255) (bm 12 495) rfl rfl kr rfl rfl ?_ ?_
   ·refine W.sliceData (i:=1) S rfl rfl Tryz.underlying212 ?_
    intro o p d S
    refine We<|WA.one (i:=8) (bm 12 511) rfl kr rfl ?_
    refine Lo 0 S<|We ?_
    refine At_ 9 12 1023 rfl (fun _=>(R.lenL (α:=UInt8) (xs:=s0_buf) (H:=Hs) R0_1 rfl Tryz.underlying128))<|WA.one (i:=10) (bm 12 2047) rfl kr rfl ?_
    refine W.strOf (i:=1) S rfl R0_1 d rfl rfl Tryz.underlying212 ceo5 ?_
    intro q S
    refine We ?_
    refine At_ 11 12 4095 rfl (fun _=>(R.as (v:=str s0_buf) rfl))<|WA.done kr ?_
    cases h
    have S3:=S
    have S3:=S3.front 0 rfl
    replace S3:St f k _ Hs (.box b 186 [va0,c] :: l):=S3.drop _ (.cons_cons _ (.refl _))
    refine WP.ret (OutS.one (L':=[.box b 186 [va0,c]]) rfl lr S3 rfl ?_)
    exact ⟨rfl,rfl⟩
   refine Lo 0 S<|We ?_
   refine At_ 9 12 1007 rfl (fun _=>(R.lenL (α:=UInt8) (xs:=s0_buf) (H:=Hs) R0_1 rfl Tryz.underlying128))<|WA.one (i:=4) (bm 12 1023) rfl kr rfl<|W.sliceData (i:=1) S rfl rfl Tryz.underlying212 ?_
   intro o p d S
   refine We<|WA.one (i:=10) (bm 12 2047) rfl kr rfl ?_
   refine W.strOf (i:=1) S rfl R0_1 d rfl rfl Tryz.underlying212 ceo5 ?_
   intro q S
   refine We ?_
   refine At_ 11 12 4095 rfl (fun _=>(R.as (v:=str s0_buf) rfl))<|WA.done kr ?_
   cases h
   have S3:=S
   have S3:=S3.front 0 rfl
   replace S3:St f k _ Hs (.box b 186 [va0,c] :: l):=S3.drop _ (.cons_cons _ (.refl _))
   refine WP.ret (OutS.one (L':=[.box b 186 [va0,c]]) rfl lr S3 rfl ?_)
   exact ⟨rfl,rfl⟩
  refine Lo 0 S<|We ?_
  refine At_ 9 12 999 rfl (fun _=>(R.lenL (α:=UInt8) (xs:=s0_buf) (H:=Hs) R0_1 rfl Tryz.underlying128))<|WA.one (i:=3) (bm 12 1007) rfl kr rfl ?_
  refine Lo 0 S<|We<|WA.one (i:=4) (bm 12 1023) rfl kr rfl<|W.sliceData (i:=1) S rfl rfl Tryz.underlying212 ?_
  intro o p d S
  refine We<|WA.one (i:=10) (bm 12 2047) rfl kr rfl ?_
  refine W.strOf (i:=1) S rfl R0_1 d rfl rfl Tryz.underlying212 ceo5 ?_
  intro q S
  refine We ?_
  refine At_ 11 12 4095 rfl (fun _=>(R.as (v:=str s0_buf) rfl))<|WA.done kr ?_
  cases h
  have S3:=S
  have S3:=S3.front 0 rfl
  replace S3:St f k _ Hs (.box b 186 [va0,c] :: l):=S3.drop _ (.cons_cons _ (.refl _))
  refine WP.ret (OutS.one (L':=[.box b 186 [va0,c]]) rfl lr S3 rfl ?_)
  exact ⟨rfl,rfl⟩
 refine Lo 0 S<|We ?_
 refine At_ 9 12 993 rfl (fun _=>(R.lenL (α:=UInt8) (xs:=s0_buf) (H:=Hs) R0_1 rfl Tryz.underlying128))<|WA.one (i:=1) (bm 12 995) rfl kr rfl<|Nn<|We ?_
 refine At_ 2 12 999 rfl (fun _=>(R.fieldB rfl zF3))<|WA.one (i:=3) (bm 12 1007) rfl kr rfl ?_
 refine Lo 0 S<|We<|WA.one (i:=4) (bm 12 1023) rfl kr rfl<|W.sliceData (i:=1) S rfl rfl Tryz.underlying212 ?_
 intro o p d S
 refine We<|WA.one (i:=10) (bm 12 2047) rfl kr rfl ?_
 refine W.strOf (i:=1) S rfl R0_1 d rfl rfl Tryz.underlying212 ceo5 ?_
 intro q S
 refine We ?_
 refine At_ 11 12 4095 rfl (fun _=>(R.as (v:=str s0_buf) rfl))<|WA.done kr ?_
 cases h
 have S3:=S
 have S3:=S3.front 0 rfl
 replace S3:St f k _ Hs (.box b 186 [va0,c] :: l):=S3.drop _ (.cons_cons _ (.refl _))
 refine WP.ret (OutS.one (L':=[.box b 186 [va0,c]]) rfl lr S3 rfl ?_)
 exact ⟨rfl,rfl⟩
theorem zJ3 {k:World} {b:Hp} (hw:Holds k b) (ap:Str) (ad:(List GParam)) {ak:Value} (l:Sl b ak ad) {r:Str} (h:zF4 ap ad=some r) :
  Cs Tryz.prog 257 [(str ap),ak] k b r:=by
 refine CM 33 Tryz.func257 hw fun S=>?_
 refine Ws<|Wg<|A<|We<|Ws<|Wg ?_
 refine W.alloc [(.pointer none),(.slice none 0 0)] S zSC ?_
 intro j w2 S
 refine We<|Ws<|Wg<|M ?_
 obtain ⟨v3,aq⟩:∃ v:Value,v=.slice none 0 0:=⟨_,rfl⟩
 have R5:Sl (α:=UInt8) b v3 []:=by rw [aq]; exact Sl.nil
 replace S:=(show ∀ {w:World},St k b w b [.box j 186 [(.pointer none),(.slice none 0 0)]]→St k b w b [.box j 186 [(.pointer none),v3]] from fun S=>by rw [aq]; exact S) S
 replace S:=St.addNilV aq S 5 1
 replace S:=S.front 1 rfl
 replace S:St k b _ b [.box j 186 [(.pointer none),v3],.row v3 5 1 ([]:List UInt8).length]:=S
 refine B h fun r6 be h=>W.callS rfl (zAd ap ([]:List UInt8) S R5 (Or.inl rfl) be) ?_
 rintro v7 w8 H9 cg bf S ⟨av,ae,rfl,rfl,bg,bh⟩
 replace S:St k b _ H9 [.box j 186 [av,ae],.row ae 5 1 r6.2.2.length]:=S
 replace S:=S.front 1 rfl
 replace S:St k b _ H9 [.row ae 5 1 r6.2.2.length,.box j 186 [av,ae]]:=S
 have l:=l.up bf
 refine We<|Ws<|Ws<|Wg<|M<|Nq l<|M<|We<|B h fun af bi h=>WP.cut (fun f w=>∃ (am:Hp) (u:Value) (q:Value),f 5=(ptr j 0)∧(u=Value.pointer none∨u=ptr j 0)∧Sl am q af∧St k b w am [.row q 5 1 af.length,.box j 186 [u,q]]) ?_ ?_
 ·refine Wb ?_
  refine WP.loopM (zC3 ad) (fun s f w=>match s with | (a4,ah)=>∃ (x:Hp) (z:Value) (t:Value),f 5=(ptr j 0)∧f 10=ak∧f 11=(int (ad.length:Int))∧f 12=(int a4)∧Sl x ak ad∧(z=Value.pointer none∨z=ptr j 0)∧Sl x t ah∧St k b w x [.row t 5 1 ah.length,.box j 186 [z,t]]) (0,r6.2.2) af bi ?_ ?_
  ·exact ⟨H9,av,ae,rfl,rfl,rfl,rfl,l,bg,bh,S⟩
  intro s f w hI ch c bj
  obtain ⟨a4,ah⟩:=s
  obtain ⟨x,z,t,aa,aw,ax,an,l,a5,a6,S⟩:=hI
  refine Ws<|Wg<|La' an ax<|We<|Ws ?_
  rcases condE c with ⟨ay,c⟩ | ⟨ay,c⟩
  ·refine CT ay<|Wk<|Ws<|Wb<|Ws<|Wg<|B c fun d bk c=>W.idx (α:=GParam) l aw an el156 bk ?_
   rintro ci _ bn rfl
   refine WL.w (R.loadHN (vs:=[(str d.fName),(str d.fValue)]) S rfl bn zHU rfl rfl) ?_
   refine W.alloc [(str []),(str [])] S zKn ?_
   intro o cj S
   refine W.store (i:=0) [(str d.fName),(str d.fValue)] S rfl rfl rfl zHU rfl rfl (Nat.le_of_ble_eq_true rfl) rfl ?_
   intro ck S
   refine We<|Ws<|Wg<|Fb ?_
   refine Lo 0 S<|B c fun cl bo c=>Je bo<|B c fun bp bq c=>Je bq ?_
   replace S:=S.front 1 rfl
   replace S:=S.front 2 rfl
   replace S:St k b _ x [.box j 186 [z,t],.row t 5 1 ah.length,.box o 161 [(str d.fName),(str d.fValue)]]:=S
   refine B c fun ab br c=>W.callS (mapC aa (mapC rfl mapN)) (zAd bp ah S a6 a5 br) ?_
   rintro cm cn a7 co bs S ⟨ao,p,rfl,rfl,a8,ac⟩
   replace S:St k b _ a7 [.box j 186 [ao,p],.row p 5 1 ab.2.2.length,.box o 161 [(str d.fName),(str d.fValue)]]:=S
   replace S:=S.front 1 rfl
   replace S:=S.front 2 rfl
   replace S:St k b _ a7 [.box o 161 [(str d.fName),(str d.fValue)],.row p 5 1 ab.2.2.length,.box j 186 [ao,p]]:=S
   have l:=l.up bs
   refine We<|Ws<|Wg<|Fb ?_
   refine Lo 0 S<|B c fun cp bt c=>W.call S rfl (zAz S.holds d.fValue bt) ?_
   rintro cq cr bu a9 S rfl
   have l:=l.up a9
   have ac:=ac.up a9
   refine We ?_
   rcases condE c with ⟨az,c⟩ | ⟨az,c⟩
   ·refine CT az<|Wg<|Fb ?_
    refine Lo 0 S ?_
    replace S:=S.front 1 rfl
    replace S:=S.front 2 rfl
    replace S:St k b _ bu [.box j 186 [ao,p],.row p 5 1 ab.2.2.length,.box o 161 [(str d.fName),(str d.fValue)]]:=S
    refine B c fun ba bv c=>W.callS (mapC aa (mapC rfl mapN)) (zAd d.fValue ab.2.2 S ac a8 bv) ?_
    rintro cs ct a0 cu bw S ⟨a1,ai,rfl,rfl,bx,bz⟩
    replace S:St k b _ a0 [.box j 186 [a1,ai],.row ai 5 1 ba.2.2.length,.box o 161 [(str d.fName),(str d.fValue)]]:=S
    replace S:=S.front 1 rfl
    replace S:=S.front 2 rfl
    replace S:St k b _ a0 [.box o 161 [(str d.fName),(str d.fValue)],.row ai 5 1 ba.2.2.length,.box j 186 [a1,ai]]:=S
    have l:=l.up bw
    refine We<|Wg<|Lg' an rfl<|M<|We ?_
    cases c
    exact ⟨rfl,⟨a0,a1,ai,aa,aw,ax,rfl,l,bx,bz,(S.drop _ (.cons _ (.cons_cons _ (.cons_cons _ .slnil))))⟩⟩
   refine CF az<|Wg<|Fb ?_
   refine Lo 0 S<|B c fun b0 b2 c=>W.call S rfl (zKW S.holds d.fValue b2) ?_
   rintro cv cw b3 bb S rfl
   have l:=l.up bb
   have ac:=ac.up bb
   replace S:=S.front 1 rfl
   replace S:=S.front 2 rfl
   replace S:St k b _ b3 [.box j 186 [ao,p],.row p 5 1 ab.2.2.length,.box o 161 [(str d.fName),(str d.fValue)]]:=S
   refine B c fun bc b4 c=>W.callS (mapC aa (mapC rfl mapN)) (zAd b0 ab.2.2 S ac a8 b4) ?_
   rintro cx cy a2 cz b5 S ⟨a3,aj,rfl,rfl,b6,b7⟩
   replace S:St k b _ a2 [.box j 186 [a3,aj],.row aj 5 1 bc.2.2.length,.box o 161 [(str d.fName),(str d.fValue)]]:=S
   replace S:=S.front 1 rfl
   replace S:=S.front 2 rfl
   replace S:St k b _ a2 [.box o 161 [(str d.fName),(str d.fValue)],.row aj 5 1 bc.2.2.length,.box j 186 [a3,aj]]:=S
   have l:=l.up b5
   refine We<|Wg<|Lg' an rfl<|M<|We ?_
   cases c
   exact ⟨rfl,⟨a2,a3,aj,aa,aw,ax,rfl,l,b6,b7,(S.drop _ (.cons _ (.cons_cons _ (.cons_cons _ .slnil))))⟩⟩
  refine CF ay<|Wx ?_
  cases c
  obtain rfl:=bj
  exact ⟨x,z,t,aa,a5,a6,S⟩
 rintro f w ⟨am,u,q,b8,b9,ca,S⟩
 refine Ws<|Wg ?_
 replace S:=S.front 1 rfl
 replace S:St k b _ am [.box j 186 [u,q],.row q 5 1 af.length]:=S
 refine B h fun c0 cb h=>W.callS (mapC b8 mapN) (zDt af S ca b9 cb) ?_
 rintro c1 c2 cc c3 c4 S ⟨rfl,rfl⟩
 replace S:St k b _ cc [.box j 186 [u,q]]:=S
 refine A<|We ?_
 exact WP.ret (Rs h S)
theorem zIJ {f:World} {c:Hp} (hw:Holds f c) (b:GMediaType) {d:Value} (i:Sl c d b.fParams) {r:Str} (h:zDo b=some r) :
  Cs Tryz.prog 245 [(agg [(str b.fType),(str b.fSub),d])] f c r:=by
 refine CM 12 Tryz.func245 hw fun S=>?_
 refine Ws<|Wg ?_
 refine W.box [(str b.fType),(str b.fSub),d] S rfl rfl ?_
 intro p q S
 refine A<|We<|Ws<|Wg<|Fb ?_
 refine Lo 0 S<|B h fun t j h=>Je j<|Fb ?_
 refine Lo 0 S<|B h fun k l h=>Je l<|Fb ?_
 refine Lo 0 S<|B h fun u o h=>W.call S rfl (zJ3 S.holds k b.fParams i o) ?_
 rintro v x z aa S rfl
 refine A<|We ?_
 exact WP.ret (Rs h S)
theorem zIh {p:World} {c:Hp} (hw:Holds p c) (j:Str) (k:(List GParam)) {d:Value} {q:Addr} {t:Addr} (z:At c q [(str j)]) (o:At c t [d]) (f:Sl c d k) {r:(Str×Bool)} (h:zFk j k=some r) :
  Con Tryz.prog 243 [(.pointer (some q)),(.pointer (some t))] p c (fun H' v=>v=(.tuple ⟨[(str r.1),(boo r.2)]⟩)):=by
 refine CM 16 Tryz.func243 hw fun S=>?_
 refine Ws<|Wg<|A<|A<|We<|Ws<|Wg ?_
 refine Lq S z<|B h fun b aa h=>W.call S rfl (zCV S.holds j aa) ?_
 rintro v2 w3 H4 u S ⟨x,rfl,R7⟩
 have o:=At.mono o u (by simp)
 have f:=f.up u
 refine M ?_
 refine Ex ?_
 refine Ex ?_
 refine W.alloc [(str []),(str []),(.slice none 0 0)] S zDQ ?_
 intro b8 w9 S
 refine W.store (i:=0) [(str b.1.fType),(str b.1.fSub),x] S rfl rfl rfl zA9 rfl (AllOne.all (l:=[(str b.1.fType),(str b.1.fSub),x]) (.cons rfl (.cons rfl (.cons (Sl.oneC R7) .nil)))) (Nat.le_of_ble_eq_true rfl) rfl ?_
 intro aj S
 refine A<|We<|Ws<|Wg ?_
 refine Lq S o<|Fb ?_
 refine W.storeSl (α:=GParam) (i:=0) [(str b.1.fType),(str b.1.fSub),d] S f rfl rfl rfl zHW (Nat.le_of_ble_eq_true rfl) rfl ?_
 intro ak S
 refine We<|Ws<|Wg ?_
 refine WL.w (R.loadBN (i:=0) (vs:=[(str b.1.fType),(str b.1.fSub),d]) S rfl rfl zA9 rfl rfl)<|B h fun al ac h=>W.call S rfl (zIJ S.holds (⟨b.1.fType,b.1.fSub,k⟩:GMediaType) f ac) ?_
 rintro am an ao ap S rfl
 refine M<|A<|A<|We ?_
 cases h
 refine WP.ret (Out.two rfl S rfl rfl ?_)
 exact rfl
theorem zGU {i:World} {d:Hp} (hw:Holds i d) (f:Str) {r:Bool} (h:zDk f=some r) :
  Cb Tryz.prog 248 [(str f)] i d r:=by
 refine CM 9 Tryz.func248 hw fun S=>?_
 refine Ws<|Wg<|A<|We<|Ws<|Wg<|M<|Na<|M<|B h fun j c h=>WL.grpw 3 [6,7] 8 (boo j) (fun w=>∃ H':Hp,d.le H'∧St i d w H' []) ?_ ?_
 ·rcases boolE (f==[42]) with b | b
  ·replace c:=condT c b
   refine Gn b<|Gn b<|Pt b ?_
   exact We ⟨(ob c),ag,⟨d,lr,S⟩⟩
  replace c:=condF c b
  refine Gy b<|M<|Gy b<|B c fun p k c=>W.call S rfl (zFl S.holds f k) ?_
  rintro q t l o S rfl
  refine Pf b ?_
  exact We ⟨(ob c),ag,⟨l,o,S⟩⟩
 intro us u ⟨v,x,S⟩
 refine A<|We ?_
 exact WP.ret (Rb h S)
theorem zIa {l:World} {c:Hp} (hw:Holds l c) (f:Int) (d:Str) (i:(List GParam)) {j:Value} {o:Addr} {p:Addr} {q:Addr} (u:At c o [(int f)]) (t:At c p [(str d)]) (x:At c q [j]) (z:Sl c j i) {r:(Str×Bool)} (h:zFi f d i=some r) :
  Con Tryz.prog 246 [(.pointer (some o)),(.pointer (some p)),(.pointer (some q))] l c (fun H' v=>v=(.tuple ⟨[(str r.1),(boo r.2)]⟩)):=by
 refine CM 15 Tryz.func246 hw fun S=>?_
 refine Ws<|Wg<|A<|A<|We<|Ws<|WP.quiet S kr kr ?_
 refine QH (int f) u ?_
 refine QH (str d) t<|B h fun r4 ab h=>WQ.call (v:=str r4) rfl (fun w H' hq S=>zBk S.holds f d ab) ?_
 refine QH (str d) t<|B h fun k ac h=>WQ.call (v:=boo k) rfl (fun w H' hq S=>zGU S.holds d ac)<|QM ?_
 refine WQ.grp 4 [11,12,13] 14 (boo (k&&((i.length:Int)==0))) ?_ ?_
 ·rcases boolE k with b | b
  ·refine QGy b ?_
   refine QH j x<|QGy b<|QNq z<|QGy b<|QLe<|QPt b ?_
   exact WQ.nil ⟨(andT b),ag⟩
  refine QGn b<|QGn b<|QGn b<|QPf b ?_
  exact WQ.nil ⟨(andF b),ag⟩
 intro us
 refine QA<|QA<|WQ.nil ?_
 intro w1 H2 af S
 cases h
 refine WP.ret (Out.two rfl S rfl rfl ?_)
 exact rfl
theorem zJW {x:World} {q:Hp} (hw:Holds x q) (c:Int) (o:Str) (ac:(List GParam)) {z:Value} (d:Sl q z ac) {r:(Str×Bool)} (h:zFI c o ac=some r) :
  Con Tryz.prog 219 [(int c),(str o),z] x q (fun H' v=>v=(.tuple ⟨[(str r.1),(boo r.2)]⟩)):=by
 refine CM 36 Tryz.func219 hw fun S=>?_
 refine Ws<|Wg ?_
 refine W.box [(int c)] S rfl rfl ?_
 intro t w2 S
 refine W.box [(str o)] S rfl rfl ?_
 intro j w4 S
 refine W.box [z] S rfl (congrArg Array.toList (Sl.cellsOne d)) ?_
 intro f w6 S
 refine A<|A<|We<|Ws<|Wg<|W.makeMap S ?_
 intro b7 w8 S
 replace S:St x q _ q [.mp b7 (enci []),.box f 156 [z],.box j 9 [(str o)],.box t 3 [(int c)]]:=S
 obtain ⟨H9,ao,ap,_,S⟩:=S.settle (i:=2) rfl
 replace S:St x q _ H9 [.mp b7 (enci []),.box f 156 [z],.box t 3 [(int c)]]:=S
 have l:At H9 ⟨j,0,none⟩ [(str o)]:=⟨_,_,rfl,ap,[],by simp⟩
 have d:=d.up ao
 obtain ⟨ah,an,aq,_,S⟩:=S.settle (i:=1) rfl
 replace S:St x q _ ah [.mp b7 (enci []),.box t 3 [(int c)]]:=S
 have u:At ah ⟨f,0,none⟩ [z]:=⟨_,_,rfl,aq,[],by simp⟩
 have d:=d.up an
 have l:=At.mono l an (by simp)
 refine WL.w (R.mkFunc (vs:=[(.pointer (some ⟨j,0,none⟩)),(.pointer (some ⟨f,0,none⟩))]) rfl)<|W.insertI (i:=0) (m:=[]) (k:=1) (v:=.func (.func 243) #[] [(.pointer (some ⟨j,0,none⟩)),(.pointer (some ⟨f,0,none⟩))].toArray) S rfl rfl rfl rfl Tryz.underlying238 Tryz.underlying3 rfl ?_
 intro a3 S
 replace S:St x q _ ah [.mp b7 (enci [(1,(.func (.func 243) #[] [(.pointer (some ⟨j,0,none⟩)),(.pointer (some ⟨f,0,none⟩))].toArray))]),.box t 3 [(int c)]]:=S
 obtain ⟨ai,aj,ar,_,S⟩:=S.settle (i:=1) rfl
 replace S:St x q _ ai [.mp b7 (enci [(1,(.func (.func 243) #[] [(.pointer (some ⟨j,0,none⟩)),(.pointer (some ⟨f,0,none⟩))].toArray))])]:=S
 have aa:At ai ⟨t,0,none⟩ [(int c)]:=⟨_,_,rfl,ar,[],by simp⟩
 have d:=d.up aj
 have l:=At.mono l aj (by simp)
 have u:=At.mono u aj (by simp)
 refine WL.w (R.mkFunc (vs:=[(.pointer (some ⟨t,0,none⟩)),(.pointer (some ⟨j,0,none⟩)),(.pointer (some ⟨f,0,none⟩))]) rfl)<|W.insertI (i:=0) (m:=[(1,(.func (.func 243) #[] [(.pointer (some ⟨j,0,none⟩)),(.pointer (some ⟨f,0,none⟩))].toArray))]) (k:=2) (v:=.func (.func 246) #[] [(.pointer (some ⟨t,0,none⟩)),(.pointer (some ⟨j,0,none⟩)),(.pointer (some ⟨f,0,none⟩))].toArray) S rfl rfl rfl rfl Tryz.underlying238 Tryz.underlying3 rfl ?_
 intro a4 S
 replace S:St x q _ ai [.mp b7 (enci [(1,(.func (.func 243) #[] [(.pointer (some ⟨j,0,none⟩)),(.pointer (some ⟨f,0,none⟩))].toArray)),(2,(.func (.func 246) #[] [(.pointer (some ⟨t,0,none⟩)),(.pointer (some ⟨j,0,none⟩)),(.pointer (some ⟨f,0,none⟩))].toArray))])]:=S
 refine M<|A<|We<|Ws<|Ws<|Wg<|M ?_
 refine Lq S aa ?_
 rcases condE h with ⟨ad,h⟩ | ⟨ad,h⟩
 ·refine WL.w (v:=.tuple ⟨[(.func (.func 243) #[] [(.pointer (some ⟨j,0,none⟩)),(.pointer (some ⟨f,0,none⟩))].toArray),(boo true)]⟩) (R.lookupI (i:=0) (k:=c) S rfl rfl rfl Tryz.underlying238 Tryz.underlying3 (zL8 ad))<|M ?_
  refine Ex ?_
  refine Ex<|A<|A<|We<|Ws<|Wg<|M<|We<|WP.condT (b:=true) rfl rfl ?_
  refine Ws<|Wg<|M<|B h fun a5 au h=>W.callv S rfl rfl (zIh S.holds o ac l u d au) ?_
  rintro a6 a7 a8 ae S rfl
  have d:=d.up ae
  have aa:=At.mono aa ae (by simp)
  have l:=At.mono l ae (by simp)
  have u:=At.mono u ae (by simp)
  refine Ex ?_
  refine Ex<|A<|A<|We ?_
  cases h
  refine WP.ret (Out.two rfl S rfl rfl ?_)
  exact rfl
 rcases condE h with ⟨ak,h⟩ | ⟨ak,h⟩
 ·refine WL.w (v:=.tuple ⟨[(.func (.func 246) #[] [(.pointer (some ⟨t,0,none⟩)),(.pointer (some ⟨j,0,none⟩)),(.pointer (some ⟨f,0,none⟩))].toArray),(boo true)]⟩) (R.lookupI (i:=0) (k:=c) S rfl rfl rfl Tryz.underlying238 Tryz.underlying3 (zI8 ad (zL8 ak)))<|M ?_
  refine Ex ?_
  refine Ex<|A<|A<|We<|Ws<|Wg<|M<|We<|WP.condT (b:=true) rfl rfl ?_
  refine Ws<|Wg<|M<|B h fun a9 av h=>W.callv S rfl rfl (zIa S.holds c o ac aa l u d av) ?_
  rintro ba bb bc af S rfl
  have d:=d.up af
  have aa:=At.mono aa af (by simp)
  have l:=At.mono l af (by simp)
  have u:=At.mono u af (by simp)
  refine Ex ?_
  refine Ex<|A<|A<|We ?_
  cases h
  refine WP.ret (Out.two rfl S rfl rfl ?_)
  exact rfl
 refine WL.w (v:=.tuple ⟨[.nilFunc,(boo false)]⟩) (R.lookupIN (i:=0) (k:=c) S rfl rfl rfl Tryz.underlying238 Tryz.underlying3 mz237 (zI8 ad (zI8 ak zO7)))<|M ?_
 refine Ex ?_
 refine Ex<|A<|A<|We<|Ws<|Wg<|M<|We<|WP.condF (b:=false) rfl rfl ?_
 refine Wk<|Ws<|WP.quiet S kr kr ?_
 refine QH (int c) aa ?_
 refine QH (str o) l<|B h fun aw ax h=>WQ.call (v:=str aw) rfl (fun w H' hq S=>zBk S.holds c o ax) ?_
 refine QH (str o) l<|B h fun al ay h=>WQ.call (v:=boo al) rfl (fun w H' hq S=>zAz S.holds o ay)<|QM ?_
 refine WQ.grp 4 [32,33,34] 35 (boo (al&&((ac.length:Int)==0))) ?_ ?_
 ·rcases boolE al with p | p
  ·refine QGy p ?_
   refine QH z u<|QGy p<|QNq d<|QGy p<|QLe<|QPt p ?_
   exact WQ.nil ⟨(andT p),ag⟩
  refine QGn p<|QGn p<|QGn p<|QPf p ?_
  exact WQ.nil ⟨(andF p),ag⟩
 intro us
 refine QA<|QA<|WQ.nil ?_
 intro bd be bf S
 cases h
 refine WP.ret (Out.two rfl S rfl rfl ?_)
 exact rfl
theorem zKZ {l:World} {o:Hp} (hw:Holds l o) (j:Int) (p:Str) {r:(GPref×Bool)} (h:zGf j p=some r) :
  Con Tryz.prog 182 [(int j),(str p)] l o (fun H' v=>v=(.tuple ⟨[(agg [(str r.1.fRange),(int r.1.fQ)]),(boo r.2)]⟩)):=by
 refine CM 51 Tryz.func182 hw fun S=>?_
 refine Ws<|Wg ?_
 refine W.alloc [(str []),(int 0)] S zG5 ?_
 intro b1 w2 S
 refine A<|We<|Ws<|Wg<|M<|B h fun q af h=>W.call S rfl (zH8 S.holds p af) ?_
 rintro v4 w5 H6 a8 S ⟨u8,rfl,c⟩
 refine M ?_
 refine Ex ?_
 refine Ex ?_
 refine Ex<|A<|A<|A<|We<|Ws<|Ws<|Wg<|M ?_
 refine No<|We ?_
 rcases condE h with ⟨t,h⟩ | ⟨t,h⟩
 ·refine CT t<|Ws<|Wg ?_
  refine WL.w (R.build [] [(str []),(int 0)] bp147 zG5 rfl rfl) ?_
  refine W.store (i:=0) [(str []),(int 0)] S rfl rfl rfl zDU rfl rfl (Nat.le_of_ble_eq_true rfl) rfl ?_
  intro a9 S
  refine A<|We ?_
  cases h
  refine WP.ret (Out.two rfl S (Res.cellB (i:=0) (cs:=[(str []),(int 0)]) S rfl rfl zDU rfl rfl) rfl ?_)
  exact rfl
 refine CF t<|Wk<|Ws<|Wg<|A<|We<|Ws<|Ws<|Wg<|M<|B h fun ba ai h=>W.call S rfl (zBR S.holds q.2.1 zCN c (fun hle hw x0 r h=>zJU hw x0 h) ai) ?_
 rintro bb bc ak al S rfl
 have c:=c.up al
 refine A<|We<|Ws<|Wg<|M<|Ld<|We<|B h fun ad b h=>WP.cut (fun f w=>match ad with | .inl (u,d)=>∃ (x:Hp) (z:Value),f 0=(int j)∧f 4=(ptr b1 0)∧f 6=(str q.1)∧f 7=z∧f 9=(int d)∧Sl x z u∧St l o w x [.box b1 147 [(str []),(int 0)]] | .inr _=>False) ?_ ?_
 ·rcases condE b with ⟨aa,b⟩ | ⟨aa,b⟩
  ·refine CT aa<|Ws<|Ws<|Wg<|M<|M<|B b fun am an b=>W.idx (α:=GParam) c rfl rfl el156 an ?_
   rintro bd _ ao rfl
   refine Fc ?_
   have ap:=At.add ao 1 (by simp)
   refine Lq S ap<|B b fun be aq b=>W.call S rfl (zJ2 S.holds am.fValue aq) ?_
   rintro bf bg ar au S rfl
   have c:=c.up au
   refine M ?_
   refine Ex ?_
   refine Ex<|A<|A<|We<|Ws<|Wg<|M<|No<|We ?_
   rcases condE b with ⟨ab,b⟩ | ⟨ab,b⟩
   ·refine CT ab<|Ws<|Wg ?_
    refine WL.w (R.build [] [(str []),(int 0)] bp147 zG5 rfl rfl) ?_
    refine W.store (i:=0) [(str []),(int 0)] S rfl rfl rfl zDU rfl rfl (Nat.le_of_ble_eq_true rfl) rfl ?_
    intro bh S
    refine A<|We ?_
    cases b
    cases h
    refine WP.ret (Out.two rfl S (Res.cellB (i:=0) (cs:=[(str []),(int 0)]) S rfl rfl zDU rfl rfl) rfl ?_)
    exact rfl
   refine CF ab<|Wk<|Wg<|M<|M<|B b fun bi av b=>W.subHi (α:=GParam) c rfl rfl el156 av ?_
   intro aw ax
   refine A<|We ?_
   cases b
   exact ⟨ar,aw,rfl,rfl,rfl,rfl,rfl,ax,S⟩
  refine CF aa<|Wk ?_
  cases b
  exact ⟨ak,u8,rfl,rfl,rfl,rfl,rfl,c,S⟩
 intro f w hM
 rcases ad with ⟨u,d⟩ | e
 ·obtain ⟨x,z,ay,ae,az,a0,a1,a2,S⟩:=hM
  refine Ws<|Wg<|M' ay<|M' az<|M' a0<|B h fun k a3 h=>W.call S rfl (zJW S.holds j q.1 u a2 a3) ?_
  rintro bj bk bn bo S rfl
  refine M ?_
  refine Ex ?_
  refine Ex<|A<|A<|We<|Ws<|Wg<|M<|M' a1 ?_
  refine WL.w (R.build [(0,(str k.1)),(1,(int d))] [(str k.1),(int d)] bp147 zG5 rfl rfl)<|M ?_
  refine W.store (i:=0) [(str k.1),(int d)] S ae rfl rfl zDU rfl rfl (Nat.le_of_ble_eq_true rfl) rfl ?_
  intro bp S
  refine A<|We ?_
  cases h
  refine WP.ret (Out.two rfl S (Res.cellB (i:=0) (cs:=[(str k.1),(int d)]) S ae rfl zDU rfl rfl) rfl ?_)
  exact rfl
 exact hM.elim
theorem zKH {u:World} {p:Hp} (hw:Holds u p) (q:Int) (z:(List GField)) {ap:Value} (k:Sl p ap z) {r:((List GPref)×Bool)} (h:zEw q z=some r) :
  Con Tryz.prog 142 [(int q),ap] u p (fun H' v=>∃ u1:Value,v=(.tuple ⟨[u1,(boo r.2)]⟩)∧Sl H' u1 r.1):=by
 refine CM 43 Tryz.func142 hw fun S=>?_
 refine Ws<|Wg<|A<|A<|We<|Ws<|Wg<|M<|B h fun r1 a0 h=>W.call S rfl (zDa S.holds q a0) ?_
 rintro v2 w3 H4 a1 S rfl
 have k:=k.up a1
 refine A<|We<|Ws<|Ws<|Wg<|M<|Na<|M<|B h fun a2 l h=>WL.grpw 5 [17,18,19,20] 21 (boo a2) (fun w=>∃ H':Hp,H4.le H'∧St u p w H' []) ?_ ?_
 ·rcases boolE (r1==[]) with c | c
  ·replace l:=condT l c
   refine Gn c<|Gn c<|Gn c<|Gn c<|Pt c ?_
   exact We ⟨(ob l),ag,⟨H4,lr,S⟩⟩
  replace l:=condF l c
  refine Gy c<|M<|Gy c<|M<|Gy c<|B l fun r8 a3 l=>W.call S rfl (zE5 S.holds z r1 k a3) ?_
  rintro v9 bs a4 au S rfl
  have k:=k.up au
  refine Gy c<|No<|Pf c ?_
  exact We ⟨(ob l),ag,⟨a4,au,S⟩⟩
 intro us bt ⟨bu,a5,S⟩
 have k:=k.up a5
 refine We ?_
 rcases condE h with ⟨ad,h⟩ | ⟨ad,h⟩
 ·refine CT ad<|Ws<|Wg<|A<|A<|We ?_
  cases h
  refine WP.ret (Out.two rfl S rfl rfl ?_)
  exact ⟨_,rfl,Sl.nil⟩
 refine CF ad<|Wk<|Ws<|Wg<|A<|We<|Ws<|Ws<|Wg<|M<|M<|B h fun ae a6 h=>W.call S rfl (zDx S.holds z r1 k a6) ?_
 rintro av bv a7 bw S d
 refine Nq d<|M<|We ?_
 have S:=S.addNil 147 2
 refine B h fun af a8 h=>WP.cut (fun f w=>∃ (ah:Hp) (aa:Value),f 7=aa∧Sl ah aa af∧St u p w ah [.row aa 147 2 af.length]) ?_ ?_
 ·refine Wb ?_
  refine WP.loopM (zCv q ae) (fun s f w=>match s with | (ai,aw)=>∃ (x:Hp) (t:Value),f 0=(int q)∧f 7=t∧f 24=av∧f 25=(int (ae.length:Int))∧f 26=(int aw)∧Sl x t ai∧Sl x av ae∧St u p w x [.row t 147 2 ai.length]) (([]:List GPref),0) af a8 ?_ ?_
  ·exact ⟨a7,.slice none 0 0,rfl,rfl,rfl,rfl,rfl,Sl.nil,d,S⟩
  intro s f w hI bx b a9
  obtain ⟨ai,aw⟩:=s
  obtain ⟨x,t,aj,ak,al,am,ab,j,d,S⟩:=hI
  refine Ws<|Wg<|La' ab am<|We<|Ws ?_
  rcases condE b with ⟨an,b⟩ | ⟨an,b⟩
  ·refine CT an<|Wk<|Ws<|Wb<|Ws<|Wg<|B b fun ba bb b=>W.idx (α:=Str) d al ab el34 bb ?_
   rintro bz _ bc rfl
   refine Lq S bc<|A<|We<|Ws<|Wg<|M' aj<|M<|B b fun o bd b=>W.call S rfl (zKZ S.holds q ba bd) ?_
   rintro b0 b1 be ax S rfl
   have j:=j.up ax
   have d:=d.up ax
   refine M ?_
   refine Ex ?_
   refine Ex ?_
   refine W.alloc [(str []),(int 0)] S zG5 ?_
   intro b2 b3 S
   refine W.store (i:=0) [(str o.1.fRange),(int o.1.fQ)] S rfl rfl rfl zDU rfl rfl (Nat.le_of_ble_eq_true rfl) rfl ?_
   intro b4 S
   refine A<|We<|Ws<|Wg<|M<|We ?_
   rcases condE b with ⟨ao,b⟩ | ⟨ao,b⟩
   ·refine CT ao<|Wg<|M' ak ?_
    refine WL.w (R.loadBN (i:=0) (vs:=[(str o.1.fRange),(int o.1.fQ)]) S rfl rfl zDU rfl rfl)<|W.bslice (α:=GPref) [(agg [(str o.1.fRange),(int o.1.fQ)])] ([o.1]:List GPref) S el122 rfl rfl rfl (by decide) (Go.Eng.encS ⟨rfl,rfl⟩ enc0) ?_
    intro b5 b6 b7 ay bf S
    have j:=j.up ay
    have d:=d.up ay
    refine B b fun b8 bg b=>W.app (α:=GPref) (i:=2) S el122 rfl rfl rfl j bf bg ?_
    intro bh b9 bi az bj S
    have j:=j.up az
    have d:=d.up az
    refine A<|We<|Wg<|Lg' ab rfl<|M<|We ?_
    cases b
    exact ⟨rfl,⟨bi,bh,aj,rfl,al,am,rfl,bj,d,(S.drop _ (.cons _ (.cons _ (.cons_cons _ .slnil))))⟩⟩
   refine CF ao<|Wk<|Wg<|Lg' ab rfl<|M<|We ?_
   cases b
   exact ⟨rfl,⟨be,t,aj,ak,al,am,rfl,j,d,(S.drop _ (.cons _ (.cons_cons _ .slnil)))⟩⟩
  refine CF an<|Wx ?_
  cases b
  obtain rfl:=a9
  exact ⟨x,t,ak,j,S⟩
 rintro f w ⟨ah,aa,bk,bn,S⟩
 refine Ws<|Wg<|M' bk<|A<|A<|We ?_
 cases h
 refine WP.ret (Out.two rfl S rfl rfl ?_)
 exact ⟨_,rfl,bn⟩
end Go.Proofs
