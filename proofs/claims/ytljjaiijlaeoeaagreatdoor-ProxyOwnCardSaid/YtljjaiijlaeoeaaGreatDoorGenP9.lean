/- A part. -/
import Derived.Test.YtljjaiijlaeoeaaGreatDoorEng38
import Derived.Test.YtljjaiijlaeoeaaGreatDoorEng36
import Derived.Test.YtljjaiijlaeoeaaGreatDoorGenP8
namespace Go.Proofs
set_option maxHeartbeats 4000000
set_option maxRecDepth 10000
open Go.Eng Go.Eng.Pure
set_option linter.unusedVariables false
theorem zBk {j:World} {k:Hp} (hw:Holds j k) (hG:Tryz.Gl j) (l:Str) {r:(Int×Int×Str×Int)} (h:zBJ l=some r) :
  Con Tryz.prog 178 [(str l)] j k (fun H' v=>v=(.tuple ⟨[(int r.1),(int r.2.1),(str r.2.2.1),(int r.2.2.2)]⟩)):=by
 refine CM 59 Tryz.func178 hw fun S=>?_
 refine Ws<|Wg<|A<|A<|A<|A<|We<|Ws<|Ws<|Wg<|M<|Ns ?_
 refine Lc<|We ?_
 rcases condE h with ⟨o,h⟩ | ⟨o,h⟩
 ·refine CT o ?_
  cases h
 refine CF o<|Wk<|Ws<|Wg<|M<|B h fun q x h=>W.call S rfl (zAX S.holds (hG.post S.post) l [32] x) ?_
 rintro v3 w4 H5 ak S rfl
 refine M ?_
 refine Ex ?_
 refine Ex ?_
 refine Ex<|A<|A<|A<|We<|Ws<|Wg<|M<|B h fun i z h=>W.call S rfl (zAX S.holds (hG.post S.post) q.2.1 [32] z) ?_
 rintro v8 w9 an ao S rfl
 refine M ?_
 refine Ex ?_
 refine Ex ?_
 refine Ex<|A<|A<|A<|We<|Ws<|Wg<|M<|B h fun t aa h=>W.call S rfl (zFW S.holds (hG.post S.post) i.1 aa) ?_
 rintro ap aq u ar S rfl
 refine M ?_
 refine Ex ?_
 refine Ex<|A<|A<|We<|Ws<|Ws<|Wg<|M<|No<|M ?_
 refine WL.grp 3 [39,40] 41 (boo ((!i.2.2)||(!t.2))) ?_ ?_
 ·rcases boolE (!i.2.2) with d | d
  ·refine Gn d<|Gn d<|Pt d ?_
   exact We ⟨(orT d),ag,rfl⟩
  refine Gy d<|M<|Gy d<|No<|Pf d ?_
  exact We ⟨(orF d),ag,rfl⟩
 intro us
 refine M<|B h fun ab f h=>WL.grpw 4 [43,44,45] 46 (boo ab) (fun w=>∃ H':Hp,u.le H'∧St j k w H' []) ?_ ?_
 ·rcases boolE ((!i.2.2)||(!t.2)) with c | c
  ·replace f:=condT f c
   refine Gn c<|Gn c<|Gn c<|Pt c ?_
   exact We ⟨(ob f),ag,⟨u,lr,S⟩⟩
  replace f:=condF f c
  refine Gy c<|M<|Gy c<|B f fun au ac f=>W.call S rfl (zDL S.holds (hG.post S.post) i.2.1 ac) ?_
  rintro av aw ad ae S rfl
  refine Gy c<|No<|Pf c ?_
  exact We ⟨(ob f),ag,⟨ad,ae,S⟩⟩
 intro us ax ⟨ay,az,S⟩
 refine We ?_
 rcases condE h with ⟨p,h⟩ | ⟨p,h⟩
 ·refine CT p ?_
  cases h
 refine CF p<|Wk<|Ws<|Wg<|M<|B h fun a0 af h=>W.call S rfl (zCM S.holds (hG.post S.post) q.1 af) ?_
 rintro a1 a2 a3 a4 S rfl
 refine M ?_
 refine Ex ?_
 refine Ex<|A<|A<|We<|Ws<|Ws<|Wg<|M ?_
 refine WL.w (R.neqNI rfl rfl Tryz.underlying98)<|We ?_
 refine WP.condF (b:=false) rfl rfl<|Wk<|Ws<|Wg<|M<|M<|M<|A<|A<|A<|A<|We ?_
 obtain rfl:=oi h
 refine WP.ret (Out.four rfl S rfl rfl rfl rfl ?_)
 exact rfl
theorem zDR {k:World} {p:Hp} (hw:Holds k p) (hG:Tryz.Gl k) (i:Int) (j:Int) (l:Str) {r:Str} (h:zB0 i j l=some r) :
  Cs Tryz.prog 149 [(int i),(int j),(str l)] k p r:=by
 refine CM 47 Tryz.func149 hw fun S=>?_
 refine Ws<|Wg<|A<|We<|Ws<|Wg<|M<|B h fun r1 q h=>W.call S rfl (zCD S.holds (hG.post S.post) i q) ?_
 rintro v2 w3 H4 ai S rfl
 refine B h fun s6 t h=>Je t<|B h fun s7 u h=>Je u<|M<|B h fun r8 v h=>W.call S rfl (zCD S.holds (hG.post S.post) j v) ?_
 rintro v9 an ao ap S rfl
 refine B h fun aq x h=>Je x<|B h fun ar z h=>Je z<|M<|B h fun aa ab h=>Je ab<|A<|We<|Ws<|Ws<|Wg<|M<|B h fun b ac h=>W.call S rfl (zBk S.holds (hG.post S.post) aa ac) ?_
 rintro au av aw ax S rfl
 refine M ?_
 refine Ex ?_
 refine Ex ?_
 refine Ex ?_
 refine Ex<|A<|A<|A<|A<|We<|Ws<|Wg ?_
 refine M<|Lf<|M ?_
 refine WL.grp 4 [32,33,34] 35 (boo ((b.2.2.2 !=0)||(b.1 !=i))) ?_ ?_
 ·rcases boolE (b.2.2.2 !=0) with c | c
  ·refine Gn c<|Gn c<|Gn c<|Pt c ?_
   exact We ⟨(orT c),ag,rfl⟩
  refine Gy c<|M<|Gy c<|M<|Gy c<|Lf<|Pf c ?_
  exact We ⟨(orF c),ag,rfl⟩
 intro us
 refine M ?_
 refine WL.grp 4 [37,38,39] 40 (boo (((b.2.2.2 !=0)||(b.1 !=i))||(b.2.1 !=j))) ?_ ?_
 ·rcases boolE ((b.2.2.2 !=0)||(b.1 !=i)) with d | d
  ·refine Gn d<|Gn d<|Gn d<|Pt d ?_
   exact We ⟨(orT d),ag,rfl⟩
  refine Gy d<|M<|Gy d<|M<|Gy d<|Lf<|Pf d ?_
  exact We ⟨(orF d),ag,rfl⟩
 intro us
 refine M ?_
 refine WL.grp 4 [42,43,44] 45 (boo ((((b.2.2.2 !=0)||(b.1 !=i))||(b.2.1 !=j))||(b.2.2.1 !=l))) ?_ ?_
 ·rcases boolE (((b.2.2.2 !=0)||(b.1 !=i))||(b.2.1 !=j)) with f | f
  ·refine Gn f<|Gn f<|Gn f<|Pt f ?_
   exact We ⟨(orT f),ag,rfl⟩
  refine Gy f<|M<|Gy f<|M<|Gy f<|Nb<|Pf f ?_
  exact We ⟨(orF f),ag,rfl⟩
 intro us
 refine We ?_
 rcases condE h with ⟨o,h⟩ | ⟨o,h⟩
 ·refine CT o ?_
  cases h
 refine CF o<|Wk<|Ws<|Wg<|M<|A<|We ?_
 exact WP.ret (Rs h S)
theorem zCq {j:World} {l:Hp} (hw:Holds j l) (hG:Tryz.Gl j) (b:Int) (k:Str) {r:Bool} (h:zCF b k=some r) :
  Cb Tryz.prog 114 [(int b),(str k)] j l r:=by
 refine CM 23 Tryz.func114 hw fun S=>?_
 refine Ws<|Wg<|A<|We<|Ws<|Wg<|M<|Ld<|M ?_
 refine WL.grp 3 [8,9] 10 (boo ((decide (100≤b))&&(decide (b≤199)))) ?_ ?_
 ·rcases boolE (decide (100≤b)) with c | c
  ·refine Gy c<|M<|Gy c<|Lb<|Pt c ?_
   exact We ⟨(andT c),ag,rfl⟩
  refine Gn c<|Gn c<|Pf c ?_
  exact We ⟨(andF c),ag,rfl⟩
 intro us
 refine M ?_
 refine WL.grp 3 [12,13] 14 (boo (((decide (100≤b))&&(decide (b≤199)))||(b==204))) ?_ ?_
 ·rcases boolE ((decide (100≤b))&&(decide (b≤199))) with d | d
  ·refine Gn d<|Gn d<|Pt d ?_
   exact We ⟨(orT d),ag,rfl⟩
  refine Gy d<|M<|Gy d<|Le<|Pf d ?_
  exact We ⟨(orF d),ag,rfl⟩
 intro us
 refine M ?_
 refine WL.grp 3 [16,17] 18 (boo ((((decide (100≤b))&&(decide (b≤199)))||(b==204))||(b==304))) ?_ ?_
 ·rcases boolE (((decide (100≤b))&&(decide (b≤199)))||(b==204)) with f | f
  ·refine Gn f<|Gn f<|Pt f ?_
   exact We ⟨(orT f),ag,rfl⟩
  refine Gy f<|M<|Gy f<|Le<|Pf f ?_
  exact We ⟨(orF f),ag,rfl⟩
 intro us
 refine M ?_
 refine WL.grp 3 [20,21] 22 (boo (((((decide (100≤b))&&(decide (b≤199)))||(b==204))||(b==304))||(k==[72,69,65,68]))) ?_ ?_
 ·rcases boolE ((((decide (100≤b))&&(decide (b≤199)))||(b==204))||(b==304)) with i | i
  ·refine Gn i<|Gn i<|Pt i ?_
   exact We ⟨(orT i),ag,rfl⟩
  refine Gy i<|M<|Gy i<|Na<|Pf i ?_
  exact We ⟨(orF i),ag,rfl⟩
 intro us
 refine A<|We ?_
 exact WP.ret (Rb h S)
theorem zFI {c:World} {f:Hp} (hw:Holds c f) (hG:Tryz.Gl c) (b:GField) {r:Str} (h:zDl b=some r) :
  Cs Tryz.prog 216 [(agg [(str b.fName),(str b.fValue)])] c f r:=by
 refine CM 8 Tryz.func216 hw fun S=>?_
 refine Ws<|Wg ?_
 refine W.box [(str b.fName),(str b.fValue)] S rfl rfl ?_
 intro l o S
 refine A<|We<|Ws<|Ws<|Wg ?_
 refine WL.w (R.loadBN (i:=0) (vs:=[(str b.fName),(str b.fValue)]) S rfl rfl lay68 rfl rfl)<|B h fun p j h=>W.call S rfl (zDB S.holds (hG.post S.post) b j) ?_
 rintro q t u v S rfl
 refine No<|We ?_
 rcases condE h with ⟨d,h⟩ | ⟨d,h⟩
 ·refine CT d ?_
  cases h
 refine CF d<|Wk<|Ws<|Wg ?_
 refine WL.w (R.loadBN (i:=0) (vs:=[(str b.fName),(str b.fValue)]) S rfl rfl lay68 rfl rfl)<|B h fun x k h=>W.call S rfl (zDK S.holds (hG.post S.post) b k) ?_
 rintro z aa ab ac S rfl
 refine A<|We ?_
 exact WP.ret (Rs h S)
theorem zBs {f ws:World} {k Hs:Hp} {l:List Ent} (hG:Tryz.Gl f) (s0_buf:(List UInt8)) {d:Value} {c:Nat} (S:St f k ws Hs (.box c 294 [(.pointer none),d] :: .row d 5 1 s0_buf.length :: l)) (R0_1:Sl Hs d s0_buf) {r:Unit} (h:zCJ s0_buf=some r) :
  ConS Tryz.prog 275 [(ptr c 0)] f k ws Hs l (fun H' v L'=>∃ j:Value,L'=[.box c 294 [(ptr c 0),j],.row j 5 1 s0_buf.length]∧v=(.tuple #[])∧Sl H' j s0_buf):=by
 refine ConS.mk (N:=20) Tryz.func275 rfl rfl kr rfl<|Ws<|Wg<|M<|Nn<|Fb ?_
 refine Lo 0 S ?_
 refine WL.w (v:=boo true) (R.ofEq (R.eqlPN rfl rfl Tryz.underlying292) rfl)<|We<|WP.condT (b:=true) rfl rfl<|Wg<|M ?_
 refine M ?_
 refine WL.w (R.toUnsafe (i:=0) S rfl rfl Tryz.underlying292 Tryz.underlying150 zI9 (by decide) (by simp))<|W.noEscape Tryz.func310 rfl rfl kr kr rfl ?_
 refine WL.w (R.fromUnsafe (i:=0) S rfl rfl Tryz.underlying150 Tryz.underlying292 zI8 zJp (by simp))<|Nn<|Fb ?_
 refine W.store (i:=0) [(ptr c 0),d] S rfl rfl rfl zJD rfl rfl (Nat.le_of_ble_eq_true rfl) rfl ?_
 intro o S
 refine We ?_
 obtain rfl:=oi h
 refine (OutS.zero (L':=[.box c 294 [(ptr c 0),d],.row d 5 1 s0_buf.length]) (.inr rfl) rfl lr S ?_)
 exact ⟨_,rfl,rfl,R0_1⟩
theorem zBm {f ws:World} {j Hs:Hp} {k:List Ent} (hG:Tryz.Gl f) (s0_buf:(List UInt8)) {d:Value} {c:Nat} (S:St f j ws Hs (.box c 294 [(ptr c 0),d] :: .row d 5 1 s0_buf.length :: k)) (R0_1:Sl Hs d s0_buf) {r:Unit} (h:zB4 s0_buf=some r) :
  ConS Tryz.prog 275 [(ptr c 0)] f j ws Hs k (fun H' v L'=>∃ i:Value,L'=[.box c 294 [(ptr c 0),i],.row i 5 1 s0_buf.length]∧v=(.tuple #[])∧Sl H' i s0_buf):=by
 refine ConS.mk (N:=20) Tryz.func275 rfl rfl kr rfl<|Ws<|Wg<|M<|Nn<|Fb ?_
 refine Lo 0 S ?_
 refine WL.w (v:=boo false) (R.ofEq (R.eqlPN rfl rfl Tryz.underlying292) rfl)<|We<|WP.condF (b:=false) rfl rfl<|Ws<|Wg ?_
 refine M<|Nn<|Fb ?_
 refine Lo 0 S<|M ?_
 refine WL.w (R.neqPS rfl rfl Tryz.underlying292 zI8)<|We<|WP.condF (b:=false) rfl rfl<|Wk ?_
 obtain rfl:=oi h
 refine (OutS.zero (L':=[.box c 294 [(ptr c 0),d],.row d 5 1 s0_buf.length]) (.inr rfl) rfl lr S ?_)
 exact ⟨_,rfl,rfl,R0_1⟩
theorem zBT {c ws:World} {o Hs:Hp} {p:List Ent} (hG:Tryz.Gl c) (s0_buf:List UInt8) {d va0:Value} {b:Nat} (S:St c o ws Hs (.box b 294 [va0,d] :: .row d 5 1 s0_buf.length :: p)) (R0_1:Sl Hs d s0_buf) (q:va0=Value.pointer none∨va0=ptr b 0) {r:Unit} (h:zAq s0_buf=some r) :
  ConS Tryz.prog 275 [(ptr b 0)] c o ws Hs p (fun H' v L'=>∃ f i:Value,L'=[.box b 294 [f,i],.row i 5 1 s0_buf.length]∧v=(.tuple #[])∧(f=Value.pointer none∨f=ptr b 0)∧Sl H' i s0_buf):=by
 rcases q with rfl | rfl
 ·exact ConS.mono (zBs hG s0_buf S R0_1 rfl) fun H' v L' ⟨u,j,k,l⟩=>⟨_,u,j,k,.inr rfl,l⟩
 exact ConS.mono (zBm hG s0_buf S R0_1 rfl) fun H' v L' ⟨u,j,k,l⟩=>⟨_,u,j,k,.inr rfl,l⟩
theorem zAJ {c ws:World} {f Hs:Hp} {j:List Ent} (hG:Tryz.Gl c) (q:Str) (s0_buf:(List UInt8)) {d:Value} {va0:Value} {b:Nat} (S:St c f ws Hs (.box b 294 [va0,d] :: .row d 5 1 s0_buf.length :: j)) (R0_1:Sl Hs d s0_buf) (x:va0=Value.pointer none∨va0=ptr b 0) {r:(Int×Unit×(List UInt8))} (h:zAG q s0_buf=some r) :
  ConS Tryz.prog 215 [(ptr b 0),(str q)] c f ws Hs j (fun H' v L'=>∃ k l:Value,L'=[.box b 294 [k,l],.row l 5 1 r.2.2.length]∧v=(.tuple ⟨[(int r.1),.nilIface]⟩)∧(k=Value.pointer none∨k=ptr b 0)∧Sl H' l r.2.2):=by
 refine ConS.mk (N:=19) Tryz.func215 rfl rfl kr rfl<|Ws<|Wg<|A<|A<|We<|Ws<|Wg<|M ?_
 replace S:=S.front 1 rfl
 replace S:=S.front 1 rfl
 replace S:St c f _ Hs (.box b 294 [va0,d] :: .row d 5 1 s0_buf.length :: j):=S
 refine B h fun r1 z h=>W.callS rfl (zBT hG s0_buf S R0_1 x z) ?_
 rintro v2 w3 H4 L6 ab S ⟨o,t,rfl,rfl,ac,ad⟩
 replace S:St c f _ H4 (.box b 294 [o,t] :: .row t 5 1 s0_buf.length :: j):=S
 refine We<|Ws<|Wg<|M<|M<|Nn<|Fb ?_
 refine Lo 0 S<|M<|B h fun ae af h=>W.appStr (i:=1) S el206 Tryz.underlying9 rfl rfl rfl ad af ?_
 intro p am an ah u S
 refine Nn<|Fb ?_
 refine W.storeSl (α:=UInt8) (i:=0) [o,p] S u rfl rfl rfl zJE (Nat.le_of_ble_eq_true rfl) rfl ?_
 intro ao S
 refine We<|Ws<|Wg<|M<|Ns<|A<|A<|We ?_
 obtain rfl:=oi h
 refine WP.ret (OutS.two (L':=[.box b 294 [o,p],.row p 5 1 ae.length]) rfl (ab.trans ah) S rfl rfl ?_)
 exact ⟨_,_,rfl,rfl,ac,u⟩
theorem zAz {d ws:World} {f Hs:Hp} {i:List Ent} (hG:Tryz.Gl d) (s0_buf:(List UInt8)) {b:Value} {va0:Value} {c:Nat} (S:St d f ws Hs (.box c 294 [va0,b] :: .row b 5 1 s0_buf.length :: i)) (R0_1:Sl Hs b s0_buf) (j:va0=Value.pointer none∨va0=ptr c 0) {r:Int} (h:zAe s0_buf=some r) :
  ConS Tryz.prog 217 [(ptr c 0)] d f ws Hs i (fun H' v L'=>L'=[.box c 294 [va0,b],.row b 5 1 s0_buf.length]∧v=(int r)):=by
 refine ConS.mk (N:=8) Tryz.func217 rfl rfl kr rfl<|Ws<|Wg<|A<|We<|Ws<|Wg<|M<|Nn<|Fb ?_
 refine Lo 0 S<|Nq R0_1 ?_
 refine A<|We ?_
 obtain rfl:=oi h
 refine WP.ret (OutS.one (L':=[.box c 294 [va0,b],.row b 5 1 s0_buf.length]) rfl lr S rfl ?_)
 exact ⟨rfl,rfl⟩
theorem zBo {o ws:World} {p Hs:Hp} {q:List Ent} (hG:Tryz.Gl o) (s0_buf:(List UInt8)) {d:Value} {va0:Value} {c:Nat} (S:St o p ws Hs (.box c 294 [va0,d] :: .row d 5 1 s0_buf.length :: q)) (R0_1:Sl Hs d s0_buf) (t:va0=Value.pointer none∨va0=ptr c 0) {r:Str} (h:zA4 s0_buf=some r) :
  ConS Tryz.prog 218 [(ptr c 0)] o p ws Hs q (fun H' v L'=>L'=[.box c 294 [va0,d]]∧v=(str r)):=by
 refine ConS.mk (N:=14) Tryz.func218 rfl rfl kr rfl<|Ws<|Wg<|A<|We<|Ws<|WP.draw kr 12 rfl (bm 12 0) rfl ?_
 have S:=S.drew
 refine At_ 0 12 1 rfl (fun _=>(R.mv (v:=ptr c 0) rfl)) ?_
 refine At_ 5 12 33 rfl (fun _=>(R.mv (v:=ptr c 0) rfl)) ?_
 refine WA.two (i:=1) (j:=6) (bm 12 35) (bm 12 97) rfl rfl kr rfl rfl ?_ ?_
 ·refine Nn<|We ?_
  refine At_ 2 12 39 rfl (fun _=>(R.fieldB rfl zDm)) ?_
  refine WA.two (i:=3) (j:=6) (bm 12 47) (bm 12 103) rfl rfl kr rfl rfl ?_ ?_
  ·refine Lo 0 S<|We ?_
   refine WA.two (i:=4) (j:=6) (bm 12 63) (bm 12 111) rfl rfl kr rfl rfl ?_ ?_
   ·refine W.sliceData (i:=1) S rfl rfl Tryz.underlying337 ?_
    intro f k b S
    refine We<|WA.one (i:=6) (bm 12 127) rfl kr rfl<|Nn<|We ?_
    refine At_ 7 12 255 rfl (fun _=>(R.fieldB rfl zDm))<|WA.one (i:=8) (bm 12 511) rfl kr rfl ?_
    refine Lo 0 S<|We ?_
    refine At_ 9 12 1023 rfl (fun _=>(R.lenL (α:=UInt8) (xs:=s0_buf) (H:=Hs) R0_1 rfl Tryz.underlying206))<|WA.one (i:=10) (bm 12 2047) rfl kr rfl ?_
    refine W.strOf (i:=1) S rfl R0_1 b rfl rfl Tryz.underlying337 ceo5 ?_
    intro l S
    refine We ?_
    refine At_ 11 12 4095 rfl (fun _=>(R.as (v:=str s0_buf) rfl))<|WA.done kr ?_
    obtain rfl:=oi h
    refine WP.ret (OutS.one (L':=[.box c 294 [va0,d]]) rfl lr S rfl ?_)
    exact ⟨rfl,rfl⟩
   refine Nn<|We ?_
   refine At_ 7 12 239 rfl (fun _=>(R.fieldB rfl zDm)) ?_
   refine WA.two (i:=4) (j:=8) (bm 12 255) (bm 12 495) rfl rfl kr rfl rfl ?_ ?_
   ·refine W.sliceData (i:=1) S rfl rfl Tryz.underlying337 ?_
    intro f k b S
    refine We<|WA.one (i:=8) (bm 12 511) rfl kr rfl ?_
    refine Lo 0 S<|We ?_
    refine At_ 9 12 1023 rfl (fun _=>(R.lenL (α:=UInt8) (xs:=s0_buf) (H:=Hs) R0_1 rfl Tryz.underlying206))<|WA.one (i:=10) (bm 12 2047) rfl kr rfl ?_
    refine W.strOf (i:=1) S rfl R0_1 b rfl rfl Tryz.underlying337 ceo5 ?_
    intro l S
    refine We ?_
    refine At_ 11 12 4095 rfl (fun _=>(R.as (v:=str s0_buf) rfl))<|WA.done kr ?_
    obtain rfl:=oi h
    refine WP.ret (OutS.one (L':=[.box c 294 [va0,d]]) rfl lr S rfl ?_)
    exact ⟨rfl,rfl⟩
   refine Lo 0 S<|We ?_
   refine At_ 9 12 1007 rfl (fun _=>(R.lenL (α:=UInt8) (xs:=s0_buf) (H:=Hs) R0_1 rfl Tryz.underlying206))<|WA.one (i:=4) (bm 12 1023) rfl kr rfl<|W.sliceData (i:=1) S rfl rfl Tryz.underlying337 ?_
   intro f k b S
   refine We<|WA.one (i:=10) (bm 12 2047) rfl kr rfl ?_
   refine W.strOf (i:=1) S rfl R0_1 b rfl rfl Tryz.underlying337 ceo5 ?_
   intro l S
   refine We ?_
   refine At_ 11 12 4095 rfl (fun _=>(R.as (v:=str s0_buf) rfl))<|WA.done kr ?_
   obtain rfl:=oi h
   refine WP.ret (OutS.one (L':=[.box c 294 [va0,d]]) rfl lr S rfl ?_)
   exact ⟨rfl,rfl⟩
  refine Nn<|We ?_
  refine At_ 7 12 231 rfl (fun _=>(R.fieldB rfl zDm)) ?_
  refine WA.two (i:=3) (j:=8) (bm 12 239) (bm 12 487) rfl rfl kr rfl rfl ?_ ?_
  ·refine Lo 0 S<|We ?_
   refine WA.two (i:=4) (j:=8) (bm 12 255) (bm 12 495) rfl rfl kr rfl rfl ?_ ?_
   ·refine W.sliceData (i:=1) S rfl rfl Tryz.underlying337 ?_
    intro f k b S
    refine We<|WA.one (i:=8) (bm 12 511) rfl kr rfl ?_
    refine Lo 0 S<|We ?_
    refine At_ 9 12 1023 rfl (fun _=>(R.lenL (α:=UInt8) (xs:=s0_buf) (H:=Hs) R0_1 rfl Tryz.underlying206))<|WA.one (i:=10) (bm 12 2047) rfl kr rfl ?_
    refine W.strOf (i:=1) S rfl R0_1 b rfl rfl Tryz.underlying337 ceo5 ?_
    intro l S
    refine We ?_
    refine At_ 11 12 4095 rfl (fun _=>(R.as (v:=str s0_buf) rfl))<|WA.done kr ?_
    obtain rfl:=oi h
    refine WP.ret (OutS.one (L':=[.box c 294 [va0,d]]) rfl lr S rfl ?_)
    exact ⟨rfl,rfl⟩
   refine Lo 0 S<|We ?_
   refine At_ 9 12 1007 rfl (fun _=>(R.lenL (α:=UInt8) (xs:=s0_buf) (H:=Hs) R0_1 rfl Tryz.underlying206))<|WA.one (i:=4) (bm 12 1023) rfl kr rfl<|W.sliceData (i:=1) S rfl rfl Tryz.underlying337 ?_
   intro f k b S
   refine We<|WA.one (i:=10) (bm 12 2047) rfl kr rfl ?_
   refine W.strOf (i:=1) S rfl R0_1 b rfl rfl Tryz.underlying337 ceo5 ?_
   intro l S
   refine We ?_
   refine At_ 11 12 4095 rfl (fun _=>(R.as (v:=str s0_buf) rfl))<|WA.done kr ?_
   obtain rfl:=oi h
   refine WP.ret (OutS.one (L':=[.box c 294 [va0,d]]) rfl lr S rfl ?_)
   exact ⟨rfl,rfl⟩
  refine Lo 0 S<|We ?_
  refine At_ 9 12 999 rfl (fun _=>(R.lenL (α:=UInt8) (xs:=s0_buf) (H:=Hs) R0_1 rfl Tryz.underlying206))<|WA.one (i:=3) (bm 12 1007) rfl kr rfl ?_
  refine Lo 0 S<|We<|WA.one (i:=4) (bm 12 1023) rfl kr rfl<|W.sliceData (i:=1) S rfl rfl Tryz.underlying337 ?_
  intro f k b S
  refine We<|WA.one (i:=10) (bm 12 2047) rfl kr rfl ?_
  refine W.strOf (i:=1) S rfl R0_1 b rfl rfl Tryz.underlying337 ceo5 ?_
  intro l S
  refine We ?_
  refine At_ 11 12 4095 rfl (fun _=>(R.as (v:=str s0_buf) rfl))<|WA.done kr ?_
  obtain rfl:=oi h
  refine WP.ret (OutS.one (L':=[.box c 294 [va0,d]]) rfl lr S rfl ?_)
  exact ⟨rfl,rfl⟩
 refine Nn<|We ?_
 refine At_ 7 12 225 rfl (fun _=>(R.fieldB rfl zDm)) ?_
 refine WA.two (i:=1) (j:=8) (bm 12 227) (bm 12 481) rfl rfl kr rfl rfl ?_ ?_
 ·refine Nn<|We ?_
  refine At_ 2 12 231 rfl (fun _=>(R.fieldB rfl zDm)) ?_
  refine WA.two (i:=3) (j:=8) (bm 12 239) (bm 12 487) rfl rfl kr rfl rfl ?_ ?_
  ·refine Lo 0 S<|We ?_
   refine WA.two (i:=4) (j:=8) (bm 12 255) (bm 12 495) rfl rfl kr rfl rfl ?_ ?_
   ·refine W.sliceData (i:=1) S rfl rfl Tryz.underlying337 ?_
    intro f k b S
    refine We<|WA.one (i:=8) (bm 12 511) rfl kr rfl ?_
    refine Lo 0 S<|We ?_
    refine At_ 9 12 1023 rfl (fun _=>(R.lenL (α:=UInt8) (xs:=s0_buf) (H:=Hs) R0_1 rfl Tryz.underlying206))<|WA.one (i:=10) (bm 12 2047) rfl kr rfl ?_
    refine W.strOf (i:=1) S rfl R0_1 b rfl rfl Tryz.underlying337 ceo5 ?_
    intro l S
    refine We ?_
    refine At_ 11 12 4095 rfl (fun _=>(R.as (v:=str s0_buf) rfl))<|WA.done kr ?_
    obtain rfl:=oi h
    refine WP.ret (OutS.one (L':=[.box c 294 [va0,d]]) rfl lr S rfl ?_)
    exact ⟨rfl,rfl⟩
   refine Lo 0 S<|We ?_
   refine At_ 9 12 1007 rfl (fun _=>(R.lenL (α:=UInt8) (xs:=s0_buf) (H:=Hs) R0_1 rfl Tryz.underlying206))<|WA.one (i:=4) (bm 12 1023) rfl kr rfl<|W.sliceData (i:=1) S rfl rfl Tryz.underlying337 ?_
   intro f k b S
   refine We<|WA.one (i:=10) (bm 12 2047) rfl kr rfl ?_
   refine W.strOf (i:=1) S rfl R0_1 b rfl rfl Tryz.underlying337 ceo5 ?_
   intro l S
   refine We ?_
   refine At_ 11 12 4095 rfl (fun _=>(R.as (v:=str s0_buf) rfl))<|WA.done kr ?_
   obtain rfl:=oi h
   refine WP.ret (OutS.one (L':=[.box c 294 [va0,d]]) rfl lr S rfl ?_)
   exact ⟨rfl,rfl⟩
  refine Lo 0 S<|We ?_
  refine At_ 9 12 999 rfl (fun _=>(R.lenL (α:=UInt8) (xs:=s0_buf) (H:=Hs) R0_1 rfl Tryz.underlying206))<|WA.one (i:=3) (bm 12 1007) rfl kr rfl ?_
  refine Lo 0 S<|We<|WA.one (i:=4) (bm 12 1023) rfl kr rfl<|W.sliceData (i:=1) S rfl rfl Tryz.underlying337 ?_
  intro f k b S
  refine We<|WA.one (i:=10) (bm 12 2047) rfl kr rfl ?_
  refine W.strOf (i:=1) S rfl R0_1 b rfl rfl Tryz.underlying337 ceo5 ?_
  intro l S
  refine We ?_
  refine At_ 11 12 4095 rfl (fun _=>(R.as (v:=str s0_buf) rfl))<|WA.done kr ?_
  obtain rfl:=oi h
  refine WP.ret (OutS.one (L':=[.box c 294 [va0,d]]) rfl lr S rfl ?_)
  exact ⟨rfl,rfl⟩
 refine Lo 0 S<|We ?_
 refine At_ 9 12 993 rfl (fun _=>(R.lenL (α:=UInt8) (xs:=s0_buf) (H:=Hs) R0_1 rfl Tryz.underlying206))<|WA.one (i:=1) (bm 12 995) rfl kr rfl<|Nn<|We ?_
 refine At_ 2 12 999 rfl (fun _=>(R.fieldB rfl zDm))<|WA.one (i:=3) (bm 12 1007) rfl kr rfl ?_
 refine Lo 0 S<|We<|WA.one (i:=4) (bm 12 1023) rfl kr rfl<|W.sliceData (i:=1) S rfl rfl Tryz.underlying337 ?_
 intro f k b S
 refine We<|WA.one (i:=10) (bm 12 2047) rfl kr rfl ?_
 refine W.strOf (i:=1) S rfl R0_1 b rfl rfl Tryz.underlying337 ceo5 ?_
 intro l S
 refine We ?_
 refine At_ 11 12 4095 rfl (fun _=>(R.as (v:=str s0_buf) rfl))<|WA.done kr ?_
 obtain rfl:=oi h
 refine WP.ret (OutS.one (L':=[.box c 294 [va0,d]]) rfl lr S rfl ?_)
 exact ⟨rfl,rfl⟩
theorem zDY {d:World} {b:Hp} (hw:Holds d b) (hG:Tryz.Gl d) (bu:Str) (al:(List GField)) (am:Int) (an:Str) {aw:Value} (l:Sl b aw al) {r:Str} (h:zC2 bu al am an=some r) :
  Cs Tryz.prog 150 [(str bu),aw,(int am),(str an)] d b r:=by
 refine CM 64 Tryz.func150 hw fun S=>?_
 refine Ws<|Wg<|A<|We<|Ws<|Ws<|Wg<|M<|Na<|We ?_
 rcases condE h with ⟨a5,h⟩ | ⟨a5,h⟩
 ·refine CT a5 ?_
  cases h
 refine CF a5<|Wk<|Ws<|Wg ?_
 refine W.alloc [(.pointer none),(.slice none 0 0)] S zJm ?_
 intro c w3 S
 refine We<|Ws<|Wg<|M<|B h fun s4 cc h=>Je cc ?_
 obtain ⟨v5,a6⟩:∃ v:Value,v=.slice none 0 0:=⟨_,rfl⟩
 have R7:Sl (α:=UInt8) b v5 []:=by rw [a6]; exact Sl.nil
 replace S:=(show ∀ {w:World},St d b w b [.box c 294 [(.pointer none),(.slice none 0 0)]]→St d b w b [.box c 294 [(.pointer none),v5]] from fun S=>by rw [a6]; exact S) S
 replace S:=St.addNilV a6 S 5 1
 replace S:=S.front 1 rfl
 replace S:St d b _ b [.box c 294 [(.pointer none),v5],.row v5 5 1 ([]:List UInt8).length]:=S
 refine B h fun r8 ce h=>W.callS rfl (zAJ hG s4 ([]:List UInt8) S R7 (Or.inl rfl) ce) ?_
 rintro v9 dr a8 ds cf S ⟨a9,ao,rfl,rfl,cg,ch⟩
 replace S:St d b _ a8 [.box c 294 [a9,ao],.row ao 5 1 r8.2.2.length]:=S
 replace S:=S.front 1 rfl
 replace S:St d b _ a8 [.row ao 5 1 r8.2.2.length,.box c 294 [a9,ao]]:=S
 have l:=l.up cf
 refine We<|Ws<|Wg<|A<|We<|Ws<|Ws<|Wg<|M<|Nq l<|M<|We<|B h fun ap ci h=>WP.cut (fun f w=>∃ (ay:Hp) (aj:Value) (ah:Value),f 2=(int am)∧f 3=(str an)∧f 9=(ptr c 0)∧(aj=Value.pointer none∨aj=ptr c 0)∧Sl ay ah ap∧St d b w ay [.row ah 5 1 ap.length,.box c 294 [aj,ah]]) ?_ ?_
 ·refine Wb ?_
  refine WP.loopM (zDd al) (fun s f w=>match s with | (az,bv,u)=>∃ (aq:Hp) (x:Value) (o:Value),f 2=(int am)∧f 3=(str an)∧f 9=(ptr c 0)∧f 10=(int az)∧f 19=aw∧f 20=(int (al.length:Int))∧f 21=(int bv)∧Sl aq aw al∧(x=Value.pointer none∨x=ptr c 0)∧Sl aq o u∧St d b w aq [.row o 5 1 u.length,.box c 294 [x,o]]) (0,0,r8.2.2) ap (lfW ci) ?_ ?_
  ·exact ⟨a8,a9,ao,rfl,rfl,rfl,rfl,rfl,rfl,rfl,l,cg,ch,S⟩
  intro s f w hI dt j cj
  obtain ⟨az,bv,u⟩:=s
  obtain ⟨aq,x,o,bw,bx,a0,ck,bz,b0,ba,l,bb,p,S⟩:=hI
  refine Ws<|Wg<|La' ba b0<|We<|Ws ?_
  rcases condE j with ⟨bc,j⟩ | ⟨bc,j⟩
  ·refine CT bc<|Wk<|Ws<|Wb<|Ws<|Wg<|B j fun k cl j=>W.idx (α:=GField) l bz ba el22 cl ?_
   rintro du _ cm rfl
   refine WL.w (R.loadHN (vs:=[(str k.fName),(str k.fValue)]) S rfl cm lay68 rfl rfl) ?_
   refine W.alloc [(str []),(str [])] S zer68 ?_
   intro ac dv S
   refine W.store (i:=0) [(str k.fName),(str k.fValue)] S rfl rfl rfl lay68 rfl rfl (Nat.le_of_ble_eq_true rfl) rfl ?_
   intro dw S
   refine We<|Ws<|Ws<|Wg<|Fb ?_
   refine Lo 0 S<|B j fun cn co j=>W.call S rfl (zAV S.holds (hG.post S.post) k.fName [67,111,110,116,101,110,116,45,76,101,110,103,116,104] co) ?_
   rintro dx dy b1 cp S rfl
   have ⟨l,p⟩:=U2 cp l p
   refine M<|B j fun cq ad j=>WL.grpw 4 [29,30,31] 32 (boo cq) (fun w=>∃ H':Hp,b1.le H'∧St d b w H' [.box ac 68 [(str k.fName),(str k.fValue)],.row o 5 1 u.length,.box c 294 [x,o]]) ?_ ?_
   ·rcases boolE cn with z | z
    ·replace ad:=condT ad z
     refine Gn z<|Gn z<|Gn z<|Pt z ?_
     exact We ⟨(ob ad),ag,⟨b1,lr,S⟩⟩
    replace ad:=condF ad z
    refine Gy z<|Fb<|Gy z ?_
    refine Lo 0 S<|Gy z<|B ad fun dz cr ad=>W.call S rfl (zAV S.holds (hG.post S.post) k.fName [84,114,97,110,115,102,101,114,45,69,110,99,111,100,105,110,103] cr) ?_
    rintro d0 d1 cs b3 S rfl
    have ⟨l,p⟩:=U2 b3 l p
    refine Pf z ?_
    exact We ⟨(ob ad),ag,⟨cs,b3,S⟩⟩
   intro us d2 ⟨d3,ct,S⟩
   have ⟨l,p⟩:=U2 ct l p
   refine We ?_
   rcases condE j with ⟨bd,j⟩ | ⟨bd,j⟩
   ·refine CT bd ?_
    cases j
   refine CF bd<|Wk<|Ws<|Wg<|M' ck<|Lg<|A<|We<|Ws<|Wg ?_
   refine WL.w (R.loadBN (i:=0) (vs:=[(str k.fName),(str k.fValue)]) S rfl rfl lay68 rfl rfl)<|B j fun be cu j=>W.call S rfl (zFI S.holds (hG.post S.post) k cu) ?_
   rintro d4 d5 bf cv S rfl
   have ⟨l,p⟩:=U2 cv l p
   refine A<|We<|Ws<|Ws<|Wg<|M<|Na<|M ?_
   refine WL.grp 3 [40,41] 42 (boo ((be==[])||(decide (64≤(wr (az+1)))))) ?_ ?_
   ·rcases boolE (be==[]) with aa | aa
    ·refine Gn aa<|Gn aa<|Pt aa ?_
     exact We ⟨(orT aa),ag,rfl⟩
    refine Gy aa<|M<|Gy aa<|Ld<|Pf aa ?_
    exact We ⟨(orF aa),ag,rfl⟩
   intro us
   refine M<|B j fun cw ae j=>WL.grpw 3 [44,45] 46 (boo cw) (fun w=>∃ H':Hp,bf.le H'∧St d b w H' [.box ac 68 [(str k.fName),(str k.fValue)],.row o 5 1 u.length,.box c 294 [x,o]]) ?_ ?_
   ·rcases boolE ((be==[])||(decide (64≤(wr (az+1))))) with ab | ab
    ·replace ae:=condT ae ab
     refine Gn ab<|Gn ab<|Pt ab ?_
     exact We ⟨(ob ae),ag,⟨bf,lr,S⟩⟩
    replace ae:=condF ae ab
    refine Gy ab ?_
    replace S:=S.front 1 rfl
    replace S:=S.front 2 rfl
    replace S:St d b _ bf [.box c 294 [x,o],.row o 5 1 u.length,.box ac 68 [(str k.fName),(str k.fValue)]]:=S
    refine B ae fun d6 cx ae=>W.callS (mapC a0 mapN) (zAz hG u S p bb cx) ?_
    rintro d7 d8 bg d9 b4 S ⟨rfl,rfl⟩
    replace S:St d b _ bg [.box c 294 [x,o],.row o 5 1 u.length,.box ac 68 [(str k.fName),(str k.fValue)]]:=S
    replace S:=S.front 1 rfl
    replace S:=S.front 2 rfl
    replace S:St d b _ bg [.box ac 68 [(str k.fName),(str k.fValue)],.row o 5 1 u.length,.box c 294 [x,o]]:=S
    have ⟨l,p⟩:=U2 b4 l p
    refine Gy ab<|Lc<|Pf ab ?_
    exact We ⟨(ob ae),ag,⟨bg,b4,S⟩⟩
   intro us ea ⟨cy,cz,S⟩
   have ⟨l,p⟩:=U2 cz l p
   refine We ?_
   rcases condE j with ⟨bh,j⟩ | ⟨bh,j⟩
   ·refine CT bh ?_
    cases j
   refine CF bh<|Wk<|Wg<|M<|B j fun c0 c1 j=>Je c1 ?_
   replace S:=S.front 1 rfl
   replace S:=S.front 2 rfl
   replace S:St d b _ cy [.box c 294 [x,o],.row o 5 1 u.length,.box ac 68 [(str k.fName),(str k.fValue)]]:=S
   refine B j fun b5 c2 j=>W.callS (mapC a0 (mapC rfl mapN)) (zAJ hG c0 u S p bb c2) ?_
   rintro eb ec bi ed c3 S ⟨bj,ar,rfl,rfl,c4,c5⟩
   replace S:St d b _ bi [.box c 294 [bj,ar],.row ar 5 1 b5.2.2.length,.box ac 68 [(str k.fName),(str k.fValue)]]:=S
   replace S:=S.front 1 rfl
   replace S:=S.front 2 rfl
   replace S:St d b _ bi [.box ac 68 [(str k.fName),(str k.fValue)],.row ar 5 1 b5.2.2.length,.box c 294 [bj,ar]]:=S
   have l:=l.up c3
   refine We<|Wg<|Lg' ba rfl<|M<|We ?_
   obtain rfl:=oi j
   exact ⟨rfl,⟨bi,bj,ar,bw,bx,a0,rfl,bz,b0,rfl,l,c4,c5,(S.pk [1,2])⟩⟩
  refine CF bc<|Wx ?_
  obtain rfl:=oi j
  obtain rfl:=cj
  exact ⟨aq,x,o,bw,bx,a0,bb,p,S⟩
 rintro f w ⟨ay,aj,ah,b6,b7,bk,b8,a1,S⟩
 refine Ws<|Ws<|Wg<|M' b6<|Ld<|We<|B h fun a2 q h=>WP.cut (fun f w=>∃ (a3:Hp) (au:Value) (ak:Value),f 3=(str an)∧f 9=(ptr c 0)∧(au=Value.pointer none∨au=ptr c 0)∧Sl a3 ak a2∧St d b w a3 [.row ak 5 1 a2.length,.box c 294 [au,ak]]) ?_ ?_
 ·rcases condE q with ⟨bn,q⟩ | ⟨bn,q⟩
  ·refine CT bn<|Wg<|M' b6<|B q fun ee c6 q=>W.call S rfl (zB9 S.holds (hG.post S.post) am c6) ?_
   rintro ef eg c7 c8 S rfl
   have a1:=a1.up c8
   refine B q fun eh c9 q=>Je c9<|B q fun da db q=>Je db ?_
   replace S:=S.front 1 rfl
   replace S:St d b _ c7 [.box c 294 [aj,ah],.row ah 5 1 ap.length]:=S
   refine B q fun b9 dc q=>W.callS (mapC bk (mapC rfl mapN)) (zAJ hG da ap S a1 b8 dc) ?_
   rintro ei ej bo ek el S ⟨bp,av,rfl,rfl,dd,de⟩
   replace S:St d b _ bo [.box c 294 [bp,av],.row av 5 1 b9.2.2.length]:=S
   replace S:=S.front 1 rfl
   replace S:St d b _ bo [.row av 5 1 b9.2.2.length,.box c 294 [bp,av]]:=S
   refine We ?_
   obtain rfl:=oi q
   exact ⟨bo,bp,av,b7,bk,dd,de,S⟩
  refine CF bn<|Wk ?_
  obtain rfl:=oi q
  exact ⟨ay,aj,ah,b7,bk,b8,a1,S⟩
 rintro f w ⟨a3,au,ak,df,bq,dg,dh,S⟩
 refine Ws<|Wg ?_
 replace S:=S.front 1 rfl
 replace S:St d b _ a3 [.box c 294 [au,ak],.row ak 5 1 a2.length]:=S
 refine B h fun af di h=>W.callS (mapC bq (mapC rfl mapN)) (zAJ hG [13,10] a2 S dh dg di) ?_
 rintro em en br eo ep S ⟨ai,t,rfl,rfl,ca,a4⟩
 replace S:St d b _ br [.box c 294 [ai,t],.row t 5 1 af.2.2.length]:=S
 replace S:=S.front 1 rfl
 replace S:St d b _ br [.row t 5 1 af.2.2.length,.box c 294 [ai,t]]:=S
 refine We<|Ws<|Ws<|Wg ?_
 replace S:=S.front 1 rfl
 replace S:St d b _ br [.box c 294 [ai,t],.row t 5 1 af.2.2.length]:=S
 refine B h fun eq dj h=>W.callS (mapC bq mapN) (zAz hG af.2.2 S a4 ca dj) ?_
 rintro er es bs et dk S ⟨rfl,rfl⟩
 replace S:St d b _ bs [.box c 294 [ai,t],.row t 5 1 af.2.2.length]:=S
 replace S:=S.front 1 rfl
 replace S:St d b _ bs [.row t 5 1 af.2.2.length,.box c 294 [ai,t]]:=S
 have a4:=a4.up dk
 refine Lc<|We ?_
 rcases condE h with ⟨bt,h⟩ | ⟨bt,h⟩
 ·refine CT bt ?_
  cases h
 refine CF bt<|Wk<|Ws<|Wg ?_
 replace S:=S.front 1 rfl
 replace S:St d b _ bs [.box c 294 [ai,t],.row t 5 1 af.2.2.length]:=S
 refine B h fun eu dl h=>W.callS (mapC bq mapN) (zBo hG af.2.2 S a4 ca dl) ?_
 rintro ew ex dm ey ez S ⟨rfl,rfl⟩
 replace S:St d b _ dm [.box c 294 [ai,t]]:=S
 refine M' df<|B h fun e0 dn h=>Je dn<|A<|We ?_
 exact WP.ret (Rs h S)
theorem zBV {d:World} {f:Hp} (hw:Holds d f) (hG:Tryz.Gl d) (b:GResponse) (i:Str) {j:Value} (c:Sl f j b.fFields) {r:Str} (h:zBE b i=some r) :
  Cs Tryz.prog 92 [(agg [(int b.fMinor),(int b.fStatus),(str b.fReason),j,(str b.fBody)]),(str i)] d f r:=by
 refine CM 34 Tryz.func92 hw fun S=>?_
 refine Ws<|Wg ?_
 refine W.box [(int b.fMinor),(int b.fStatus),(str b.fReason),j,(str b.fBody)] S rfl rfl ?_
 intro x z S
 refine A<|We<|Ws<|Ws<|Wg<|Fb ?_
 refine Lo 0 S<|Ns<|Lc<|We ?_
 rcases condE h with ⟨k,h⟩ | ⟨k,h⟩
 ·refine CT k ?_
  cases h
 refine CF k<|Wk<|Ws<|Wg<|Fb ?_
 refine Lo 0 S<|Fb ?_
 refine Lo 0 S<|Fb ?_
 refine Lo 0 S<|B h fun o p h=>W.call S rfl (zDR S.holds (hG.post S.post) b.fMinor b.fStatus b.fReason p) ?_
 rintro v5 w6 H7 q S rfl
 have c:=c.up q
 refine A<|We<|Ws<|Ws<|Wg<|Fb ?_
 refine Lo 0 S<|M<|B h fun r9 t h=>W.call S rfl (zCq S.holds (hG.post S.post) b.fStatus i t) ?_
 rintro ae af ah u S rfl
 have c:=c.up u
 refine We ?_
 rcases condE h with ⟨l,h⟩ | ⟨l,h⟩
 ·refine CT l ?_
  cases h
 refine CF l<|Wk<|Ws<|Wg<|M<|Fb ?_
 refine Lo 0 S<|Fb ?_
 refine Lo 0 S<|Ns<|Fb ?_
 refine Lo 0 S<|B h fun ai v h=>W.call S rfl (zDY S.holds (hG.post S.post) o b.fFields (b.fBody.length:Int) b.fBody c v) ?_
 rintro aj ak al am S rfl
 refine A<|We ?_
 exact WP.ret (Rs h S)
theorem zEF {p:World} {j:Hp} (hw:Holds p j) (hG:Tryz.Gl p) (c:GRequest) (b:GResponse) {o:Value} {k:Value} (u:Sl j o c.fFields) (l:Sl j k b.fFields) {r:Str} (h:zD4 c b=some r) :
  Cs Tryz.prog 99 [(agg [(str c.fMethod),(str c.fTarget),(int c.fMinor),o,(str c.fBody)]),(agg [(int b.fMinor),(int b.fStatus),(str b.fReason),k,(str b.fBody)])] p j r:=by
 refine CM 19 Tryz.func99 hw fun S=>?_
 refine Ws<|Wg ?_
 refine W.box [(str c.fMethod),(str c.fTarget),(int c.fMinor),o,(str c.fBody)] S rfl rfl ?_
 intro v w2 S
 refine W.box [(int b.fMinor),(int b.fStatus),(str b.fReason),k,(str b.fBody)] S rfl rfl ?_
 intro x w4 S
 refine A<|We<|Ws<|Ws<|Wg<|Fb ?_
 refine Lo 0 S<|Le<|M<|B h fun z f h=>WL.grpw 4 [9,10,11] 12 (boo z) (fun w=>∃ H':Hp,j.le H'∧St p j w H' [.box x 24 [(int b.fMinor),(int b.fStatus),(str b.fReason),k,(str b.fBody)],.box v 94 [(str c.fMethod),(str c.fTarget),(int c.fMinor),o,(str c.fBody)]]) ?_ ?_
 ·rcases boolE (b.fStatus==200) with d | d
  ·replace f:=condT f d
   refine Gy d ?_
   refine WL.w (R.loadBN (i:=1) (vs:=[(str c.fMethod),(str c.fTarget),(int c.fMinor),o,(str c.fBody)]) S rfl rfl lay94 rfl rfl)<|Gy d ?_
   refine WL.w (R.loadBN (i:=0) (vs:=[(int b.fMinor),(int b.fStatus),(str b.fReason),k,(str b.fBody)]) S rfl rfl lay24 rfl rfl)<|Gy d<|B f fun r7 aa f=>W.call S rfl (zDg S.holds (hG.post S.post) c b u l aa) ?_
   rintro v8 w9 ab t S rfl
   have l:=l.up t
   refine Pt d ?_
   exact We ⟨(ob f),ag,⟨ab,t,S⟩⟩
  replace f:=condF f d
  refine Gn d<|Gn d<|Gn d<|Pf d ?_
  exact We ⟨(ob f),ag,⟨j,lr,S⟩⟩
 intro us ak ⟨al,ac,S⟩
 have l:=l.up ac
 refine We ?_
 rcases condE h with ⟨q,h⟩ | ⟨q,h⟩
 ·refine CT q ?_
  cases h
 refine CF q<|Wk<|Ws<|Wg ?_
 refine WL.w (R.loadBN (i:=0) (vs:=[(int b.fMinor),(int b.fStatus),(str b.fReason),k,(str b.fBody)]) S rfl rfl lay24 rfl rfl)<|Fb ?_
 refine Lo 1 S<|B h fun am ad h=>W.call S rfl (zBV S.holds (hG.post S.post) b c.fMethod l ad) ?_
 rintro an ao ap aq S rfl
 refine A<|We ?_
 exact WP.ret (Rs h S)
theorem zG7 {l:World} {d:Hp} (hw:Holds l d) (hG:Tryz.Gl l) (b:GRequest) (c:GResponse) {f:Value} {j:Value} (p:Sl d f b.fFields) (q:Sl d j c.fFields) {r:GOutput} (h:zGf b c=some r) :
  Con Tryz.prog 54 [(agg [(str b.fMethod),(str b.fTarget),(int b.fMinor),f,(str b.fBody)]),(agg [(int c.fMinor),(int c.fStatus),(str c.fReason),j,(str c.fBody)])] l d (fun H' v=>v=(agg [(str r.fToClient),(str r.fToOrigin)])):=by
 refine CM 15 Tryz.func54 hw fun S=>?_
 refine Ws<|Wg ?_
 refine W.box [(str b.fMethod),(str b.fTarget),(int b.fMinor),f,(str b.fBody)] S rfl rfl ?_
 intro u x S
 refine W.box [(int c.fMinor),(int c.fStatus),(str c.fReason),j,(str c.fBody)] S rfl rfl ?_
 intro z w4 S
 refine W.alloc [(str []),(str [])] S zer56 ?_
 intro b5 w6 S
 refine We<|Ws<|Ws<|Wg ?_
 refine WL.w (R.loadBN (i:=2) (vs:=[(str b.fMethod),(str b.fTarget),(int b.fMinor),f,(str b.fBody)]) S rfl rfl lay94 rfl rfl) ?_
 refine WL.w (R.loadBN (i:=1) (vs:=[(int c.fMinor),(int c.fStatus),(str c.fReason),j,(str c.fBody)]) S rfl rfl lay24 rfl rfl)<|B h fun k t h=>W.call S rfl (zEF S.holds (hG.post S.post) b c p q t) ?_
 rintro v8 w9 af ah S rfl
 refine A<|We<|Ws<|Wg<|M<|Nb<|We ?_
 rcases condE h with ⟨o,h⟩ | ⟨o,h⟩
 ·refine CT o<|Ws<|Wg<|M ?_
  refine WL.w (R.build [(0,(str k))] [(str k),(str [])] bp56 zer56 rfl rfl) ?_
  refine W.store (i:=0) [(str k),(str [])] S rfl rfl rfl lay56 rfl rfl (Nat.le_of_ble_eq_true rfl) rfl ?_
  intro ai S
  refine We ?_
  obtain rfl:=oi h
  refine WP.ret (Out.one rfl S (Res.cellB (i:=0) (cs:=[(str k),(str [])]) S rfl rfl lay56 rfl rfl) ?_)
  exact rfl
 refine CF o ?_
 cases h
theorem zGU {b:World} {f:Hp} (hw:Holds b f) (hG:Tryz.Gl b) (c:Str) (d:Str) {r:Int} (h:zG1 c d=some r) :
  Ci Tryz.prog 293 [(str c),(str d)] b f r:=by
 refine CM 8 Tryz.func293 hw fun S=>?_
 refine Ws<|Wg<|A<|We<|Ws<|Wg<|M<|M<|B h fun j i h=>W.call S rfl (zC6 S.holds c d i) ?_
 rintro k l o p S rfl
 refine A<|We ?_
 exact WP.ret (Ri h S)
theorem zCK {j ws:World} {u Hs:Hp} {L2:List Ent} (hG:Tryz.Gl j) {s:Str} {c:UInt8} {o d p l bm TB q t:Nat} {r:Loop} {m:List (Str×Bool)} (E:List (Str×Bool)→Str→List (Str×Bool)) (hl:s.length≤1073741824)
  (hp:r.params=#[t])
  (hY:∀ (k:Str) (m:List (Str×Bool)) (w:World) (H:Hp) (L:List Ent),St j u w H (.obj l (.loop r) :: .box bm TB [mapv q] :: .mp q (encm boo m) :: L) →
   RoundIn Fence.wide 0 Tryz.prog l r.fn ((r.params.zip #[str k]).foldl (fun tmps (t,a)=>tmps.setIfInBounds t a) r.tmps) r.assign r.body w (fun e w'=>e=.returned (.bool true)∧St j u w' H (.obj l (.loop r) :: .box bm TB [mapv q] :: .mp q (encm boo (E m k)) :: L)))
  (S:St j u ws Hs (.obj l (.loop r) :: .box bm TB [mapv q] :: .mp q (encm boo m) :: .box o 9 [str [c]] :: .box d 9 [str s] :: .box p 3 [int 0] :: L2)) :
  ConS Tryz.prog 291 [.func (.yield l) #[] #[],ptr o 0,ptr d 0,ptr p 0] j u ws Hs L2 (fun H' v L'=>∃ s',L'=[.obj l (.loop r),.box bm TB [mapv q],.mp q (encm boo ((zC8 c s).foldl E m)),.box o 9 [str [c]],.box d 9 [str s'],.box p 3 [int 0]]∧v=.tuple #[]):=by
 refine ConS.mk (N:=52) Tryz.func291 rfl rfl kr rfl<|Ws<|Ws<|Wg ?_
 refine Lo 3 S<|Ns ?_
 refine WL.w (v:=boo false) (R.ofEq (R.eql (a:=1) (b:=0) rfl rfl) rfl)<|We<|WP.condF (b:=false) rfl rfl<|Wk<|Ws ?_
 refine WP.cut (fun f w=>∃ (s':Str) (m':List (Str×Bool)) (H:Hp),f 0=.func (.yield l) #[] #[]∧f 2=ptr d 0∧Hs.le H∧E m' s'=(zC8 c s).foldl E m∧St j u w H (.obj l (.loop r) :: .box bm TB [mapv q] :: .mp q (encm boo m') :: .box o 9 [str [c]] :: .box d 9 [str s'] :: .box p 3 [int 0] :: L2)) ?_ ?_
 ·refine Wb ?_
  refine WP.loopK (fun (x:Str×List (Str×Bool)) f w=>∃ (H:Hp),f 0=.func (.yield l) #[] #[]∧f 1=ptr o 0∧f 2=ptr d 0∧f 3=ptr p 0∧Hs.le H∧x.1.length≤1073741824∧(zC8 c x.1).foldl E x.2=(zC8 c s).foldl E m ∧
    St j u w H (.obj l (.loop r) :: .box bm TB [mapv q] :: .mp q (encm boo x.2) :: .box o 9 [str [c]] :: .box d 9 [str x.1] :: .box p 3 [int 0] :: L2)) (fun x=>x.1.length) (s,m) ⟨Hs,rfl,rfl,rfl,rfl,Hp.le.refl _,hl,rfl,S⟩ ?_
  rintro ⟨x,y⟩ f w ⟨H,z,h1,h,h3,hle,hlx,hE,S⟩
  simp only at hlx hE
  refine Wb<|Ws<|Wg ?_
  refine Lo' 4 S h ?_
  refine Lo' 3 S h1<|W.call S rfl (zGU S.holds (hG.post S.post) x [c] (r:=Lib.indexByte x c) rfl) ?_
  rintro _ w1 H1 ae S rfl
  refine A<|We<|Ws<|Ws<|Wg<|M<|La<|We ?_
  rcases zG8 x c with ⟨hi,hno⟩ | ⟨a,b,rfl,hno,hi⟩
  ·refine WP.condT (b:=decide (Lib.indexByte x c<0)) rfl (by rw [hi]; rfl)<|Wx ?_
   refine ⟨x,y,H1,z,h,hle.trans ae,?_,S⟩
   rw [← hE,zHA c x hno]; rfl
  have hla:a.length+1+b.length≤1073741824:=by simp only [List.length_append,List.length_cons] at hlx; omega
  refine WP.condF (b:=decide (Lib.indexByte (a++c :: b) c<0)) rfl (by rw [hi]; exact decide_eq_false (by omega))<|Wk<|Ws<|Wg ?_
  refine Lo' 4 S h ?_
  refine WL.w (R.mv (v:=int a.length) (by rw [← hi]; rfl)) ?_
  refine Lo' 5 S h3 ?_
  refine WL.w (v:=int a.length) (R.ofEq (R.add rfl rfl) (by rw [Int.add_zero,wr_eq (by omega)]))<|Jd (zIu a b c)<|A<|We<|Ws ?_
  refine Ws<|WP.regionY [0,1,2,3] rfl ?_
  refine WY.valw rfl (R.mv (v:=.func (.yield l) #[] #[]) z) ?_
  refine WY.valw rfl (R.mv (v:=str a) rfl)<|WY.yield rfl rfl rfl (S.objAt (i:=0) rfl) (by rw [hp]; rfl) (hY a y w1 H1 _ S) ?_
  intro w2 S
  refine WY.valw rfl (R.not (b:=true) rfl)<|WY.nil<|WP.condF (b:=false) rfl rfl<|Wk<|Wg ?_
  refine Lo' 4 S h ?_
  refine WL.w (R.mv (v:=int a.length) (by rw [← hi]; rfl)) ?_
  refine Lo' 3 S h1<|Ns ?_
  refine WL.w (v:=int ((a.length+1:Nat):Int)) (R.ofEq (R.add rfl rfl) (by rw [wr_eq (by simp; omega)]; rfl))<|Jc (zIV a b c) ?_
  refine W.store (i:=4) [str b] S h rfl rfl lay9 rfl rfl (Nat.le_of_ble_eq_true rfl) rfl ?_
  intro w3 S
  refine We ?_
  refine ⟨(b,E y a),by simp; omega,H1,z,h1,h,h3,hle.trans ae,by simp; omega,?_,S⟩
  rw [← hE,zHC c a b hno]; rfl
 rintro f w ⟨s',m',H,z,h,hle,hE,S⟩
 refine WP.regionY [0,1,2] rfl ?_
 refine WY.valw rfl (R.mv (v:=.func (.yield l) #[] #[]) z) ?_
 refine WY.valw rfl (R.loadB (i:=4) (v:=str s') S h rfl lay9 rfl)<|WY.yield rfl rfl rfl (S.objAt (i:=0) rfl) (by rw [hp]; rfl) (hY s' m' w H _ S) ?_
 intro w2 S
 refine WY.nil<|OutS.zero (L':=[.obj l (.loop r),.box bm TB [mapv q],.mp q (encm boo (E m' s')),.box o 9 [str [c]],.box d 9 [str s'],.box p 3 [int 0]]) (.inr rfl) rfl hle S ?_
 exact ⟨s',by rw [hE],rfl⟩
theorem zFw {f ws:World} {h Hs:Hp} {i:List Ent} (S:St f h ws Hs i) (s sep:Str) (n:Int) :
  ConS Tryz.prog 255 [str s,str sep,int n] f h ws Hs i (fun H' v L'=>∃ b c d:Nat,L'=[.box b 9 [str sep],.box c 9 [str s],.box d 3 [int n]]∧v=.func (.func 291) #[] [ptr b 0,ptr c 0,ptr d 0].toArray):=by
 refine ConS.mk (N:=8) Tryz.func255 rfl rfl kr rfl<|Ws<|Wg ?_
 refine W.box [str s] S rfl rfl ?_
 intro c j S
 refine W.box [str sep] S rfl rfl ?_
 intro b k S
 refine W.box [int n] S rfl rfl ?_
 intro d l S
 refine A<|We<|Ws<|Wg ?_
 refine WL.w (R.mkFunc (vs:=[ptr b 0,ptr c 0,ptr d 0]) rfl)<|A<|We ?_
 have S3:=(S.front 2 rfl).front 2 rfl
 refine WP.ret (OutS.one (L':=[.box b 9 [str sep],.box c 9 [str s],.box d 3 [int n]]) rfl lr S3 rfl ?_)
 exact ⟨_,_,_,rfl,rfl⟩
theorem zC9 {f ws:World} {h Hs:Hp} {i:List Ent} (S:St f h ws Hs i) (s sep:Str) :
  ConS Tryz.prog 190 [str s,str sep] f h ws Hs i (fun H' v L'=>∃ b c d:Nat,L'=[.box b 9 [str sep],.box c 9 [str s],.box d 3 [int 0]]∧v=.func (.func 291) #[] [ptr b 0,ptr c 0,ptr d 0].toArray):=by
 refine ConS.mk (N:=8) Tryz.func190 rfl rfl kr rfl<|Ws<|Wg<|A<|We<|Ws<|Wg<|M<|M<|W.callS rfl (zFw S s sep 0) ?_
 rintro _ j k _ hle S ⟨b,c,d,rfl,rfl⟩
 refine WL.w (R.as rfl)<|We ?_
 refine WP.ret (OutS.one rfl hle S rfl ?_)
 exact ⟨_,_,_,rfl,rfl⟩
end Go.Proofs
