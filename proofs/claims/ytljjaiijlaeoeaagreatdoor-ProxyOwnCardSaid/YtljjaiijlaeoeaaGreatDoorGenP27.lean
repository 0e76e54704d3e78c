/- A part. -/
import Derived.Test.YtljjaiijlaeoeaaGreatDoorEng38
import Derived.Test.YtljjaiijlaeoeaaGreatDoorEng36
import Derived.Test.YtljjaiijlaeoeaaGreatDoorGenP26
namespace Go.Proofs
set_option maxHeartbeats 4000000
set_option maxRecDepth 10000
open Go.Eng Go.Eng.Pure
set_option linter.unusedVariables false
theorem zKb {t:World} {x:Hp} (hw:Holds t x) (hG:Tryz.Gl t) (o:Str) (z:Str) (aj:Bool) {r:(GResponse×Int×Int)} (h:zKk o z aj=some r) :
  Con Tryz.prog 12 [(str o),(str z),(boo aj)] t x (fun H' v=>∃ u1:Value,v=(.tuple ⟨[(agg [(int r.1.fMinor),(int r.1.fStatus),(str r.1.fReason),u1,(str r.1.fBody)]),(int r.2.1),(int r.2.2)]⟩)∧Sl H' u1 r.1.fFields):=by
 refine CM 81 Tryz.func12 hw fun S=>?_
 refine Ws<|Wg ?_
 refine W.alloc [(int 0),(int 0),(str []),(.slice none 0 0),(str [])] S zer24 ?_
 intro b1 w2 S
 refine A<|A<|We<|Ws<|Wg<|M<|B h fun p aq h=>W.call S rfl (zLm S.holds (hG.post S.post) o false aq) ?_
 rintro v4 w5 H6 ba S ⟨u8,rfl,k⟩
 refine M ?_
 refine Ex ?_
 refine Ex ?_
 refine Ex ?_
 refine Ex<|A<|A<|A<|A<|We<|Ws<|Ws ?_
 refine Wg<|M<|Lf<|We ?_
 rcases condE h with ⟨aa,h⟩ | ⟨aa,h⟩
 ·refine CT aa<|Ws<|Wg ?_
  refine WL.w (R.build [] [(int 0),(int 0),(str []),(.slice none 0 0),(str [])] bp24 zer24 rfl rfl)<|M ?_
  refine W.store (i:=0) [(int 0),(int 0),(str []),(.slice none 0 0),(str [])] S rfl rfl rfl lay24 rfl (AllOne.all (l:=[(int 0),(int 0),(str []),(.slice none 0 0),(str [])]) (.cons rfl (.cons rfl (.cons rfl (.cons rfl (.cons rfl .nil)))))) (Nat.le_of_ble_eq_true rfl) rfl ?_
  intro bc S
  refine A<|A<|We ?_
  obtain rfl:=oi h
  refine WP.ret (Out.three rfl S (Res.cellB (i:=0) (cs:=[(int 0),(int 0),(str []),(.slice none 0 0),(str [])]) S rfl rfl lay24 rfl rfl) rfl rfl ?_)
  exact ⟨_,rfl,Sl.nil⟩
 refine CF aa<|Wk<|Ws<|Wg<|M<|B h fun b ar h=>W.call S rfl (zKR S.holds (hG.post S.post) p.1 ar) ?_
 rintro bd be bf au S rfl
 have k:=k.up au
 refine M ?_
 refine Ex ?_
 refine Ex ?_
 refine Ex ?_
 refine Ex<|A<|A<|A<|A<|We<|Ws<|Wg ?_
 refine M<|B h fun bg av h=>W.call S rfl (zLh S.holds (hG.post S.post) p.2.1 k av) ?_
 rintro bh bi bj aw S rfl
 have k:=k.up aw
 refine M ?_
 refine Ex ?_
 refine Ex<|A<|A<|We<|Ws<|Ws<|Wg<|M<|Lf<|We ?_
 rcases condE h with ⟨ab,h⟩ | ⟨ab,h⟩
 ·refine CT ab<|Ws<|Wg ?_
  refine WL.w (R.build [] [(int 0),(int 0),(str []),(.slice none 0 0),(str [])] bp24 zer24 rfl rfl)<|M ?_
  refine W.store (i:=0) [(int 0),(int 0),(str []),(.slice none 0 0),(str [])] S rfl rfl rfl lay24 rfl (AllOne.all (l:=[(int 0),(int 0),(str []),(.slice none 0 0),(str [])]) (.cons rfl (.cons rfl (.cons rfl (.cons rfl (.cons rfl .nil)))))) (Nat.le_of_ble_eq_true rfl) rfl ?_
  intro bk S
  refine A<|A<|We ?_
  obtain rfl:=oi h
  refine WP.ret (Out.three rfl S (Res.cellB (i:=0) (cs:=[(int 0),(int 0),(str []),(.slice none 0 0),(str [])]) S rfl rfl lay24 rfl rfl) rfl rfl ?_)
  exact ⟨_,rfl,Sl.nil⟩
 refine CF ab<|Wk<|Ws<|Wg<|M<|M<|M<|M<|B h fun ax ay h=>W.call S rfl (zKw S.holds (hG.post S.post) p.2.1 k ay) ?_
 rintro c bn bo bp S d
 refine WL.w (R.build [(0,(int b.1)),(1,(int b.2.1)),(2,(str b.2.2.1)),(3,c)] [(int b.1),(int b.2.1),(str b.2.2.1),c,(str [])] bp24 zer24 rfl (by obtain ⟨_,_,rfl,_⟩:=d; rfl)) ?_
 refine W.alloc [(int 0),(int 0),(str []),(.slice none 0 0),(str [])] S zer24 ?_
 intro am bq S
 refine W.store (i:=0) [(int b.1),(int b.2.1),(str b.2.2.1),c,(str [])] S rfl rfl rfl lay24 rfl (AllOne.all (l:=[(int b.1),(int b.2.1),(str b.2.2.1),c,(str [])]) (.cons rfl (.cons rfl (.cons rfl (.cons (Sl.oneC d) (.cons rfl .nil)))))) (Nat.le_of_ble_eq_true rfl) rfl ?_
 intro br S
 refine We<|Ws<|Ws<|Wg<|M<|M<|B h fun bs az h=>W.call S rfl (zKt S.holds (hG.post S.post) b.2.1 z az) ?_
 rintro bt bu an a0 S rfl
 have d:=d.up a0
 refine We ?_
 rcases condE h with ⟨ac,h⟩ | ⟨ac,h⟩
 ·refine CT ac<|Ws<|Wg ?_
  refine WL.w (R.loadBN (i:=0) (vs:=[(int b.1),(int b.2.1),(str b.2.2.1),c,(str [])]) S rfl rfl lay24 rfl rfl)<|M ?_
  refine W.store (i:=1) [(int b.1),(int b.2.1),(str b.2.2.1),c,(str [])] S rfl rfl rfl lay24 rfl (AllOne.all (l:=[(int b.1),(int b.2.1),(str b.2.2.1),c,(str [])]) (.cons rfl (.cons rfl (.cons rfl (.cons (Sl.oneC d) (.cons rfl .nil)))))) (Nat.le_of_ble_eq_true rfl) rfl ?_
  intro bv S
  refine A<|A<|We ?_
  obtain rfl:=oi h
  refine WP.ret (Out.three rfl S (Res.cellB (i:=1) (cs:=[(int b.1),(int b.2.1),(str b.2.2.1),c,(str [])]) S rfl rfl lay24 rfl rfl) rfl rfl ?_)
  exact ⟨_,rfl,d⟩
 refine CF ac<|Wk<|Ws<|Ws<|Wg<|M<|Le<|We<|B h fun ao j h=>WP.cut (fun f w=>match ao with | .inl ad=>∃ (ae:Hp),f 0=(str o)∧f 6=(ptr b1 0)∧f 11=(int p.2.2.1)∧f 17=(int ad)∧f 18=(ptr am 0)∧Sl ae c ax∧St t x w ae [.box am 24 [(int b.1),(int b.2.1),(str b.2.2.1),c,(str [])],.box b1 24 [(int 0),(int 0),(str []),(.slice none 0 0),(str [])]] | .inr _=>False) ?_ ?_
 ·rcases condE j with ⟨af,j⟩ | ⟨af,j⟩
  ·refine CT af<|Ws<|Ws<|Wg<|M<|No<|We ?_
   rcases condE j with ⟨ah,j⟩ | ⟨ah,j⟩
   ·refine CT ah<|Ws<|Wg ?_
    refine WL.w (R.build [] [(int 0),(int 0),(str []),(.slice none 0 0),(str [])] bp24 zer24 rfl rfl) ?_
    refine W.store (i:=1) [(int 0),(int 0),(str []),(.slice none 0 0),(str [])] S rfl rfl rfl lay24 rfl (AllOne.all (l:=[(int 0),(int 0),(str []),(.slice none 0 0),(str [])]) (.cons rfl (.cons rfl (.cons rfl (.cons rfl (.cons rfl .nil)))))) (Nat.le_of_ble_eq_true rfl) rfl ?_
    intro bw S
    refine A<|A<|We ?_
    obtain rfl:=oi j
    obtain rfl:=oi h
    refine WP.ret (Out.three rfl S (Res.cellB (i:=1) (cs:=[(int 0),(int 0),(str []),(.slice none 0 0),(str [])]) S rfl rfl lay24 rfl rfl) rfl rfl ?_)
    exact ⟨_,rfl,Sl.nil⟩
   refine CF ah<|Wk<|Wg<|M<|Ns<|M<|Lh<|A<|We ?_
   obtain rfl:=oi j
   exact ⟨an,rfl,rfl,rfl,rfl,rfl,d,S⟩
  refine CF af<|Wk ?_
  obtain rfl:=oi j
  exact ⟨an,rfl,rfl,rfl,rfl,rfl,d,S⟩
 intro f w hM
 rcases ao with ad | e
 ·obtain ⟨ae,a1,u,a2,a3,ap,d,S⟩:=hM
  refine Ws<|Wg<|M' a1<|M' a2<|M' a3<|B h fun q a4 h=>W.call S rfl (zLn S.holds (hG.post S.post) o p.2.2.1 ad a4) ?_
  rintro bx bz b0 a5 S rfl
  have d:=d.up a5
  refine M ?_
  refine Ex ?_
  refine Ex ?_
  refine Ex<|Fb' ap ?_
  refine W.store (i:=0) [(int b.1),(int b.2.1),(str b.2.2.1),c,(str q.1)] S rfl rfl rfl lay9 rfl rfl (Nat.le_of_ble_eq_true rfl) rfl ?_
  intro b2 S
  refine A<|A<|We<|Ws<|Ws<|Wg<|M<|Lf<|We ?_
  rcases condE h with ⟨ai,h⟩ | ⟨ai,h⟩
  ·refine CT ai<|Ws<|Wg ?_
   refine WL.w (R.build [] [(int 0),(int 0),(str []),(.slice none 0 0),(str [])] bp24 zer24 rfl rfl)<|M ?_
   refine W.store (i:=1) [(int 0),(int 0),(str []),(.slice none 0 0),(str [])] S u rfl rfl lay24 rfl (AllOne.all (l:=[(int 0),(int 0),(str []),(.slice none 0 0),(str [])]) (.cons rfl (.cons rfl (.cons rfl (.cons rfl (.cons rfl .nil)))))) (Nat.le_of_ble_eq_true rfl) rfl ?_
   intro b3 S
   refine A<|A<|We ?_
   obtain rfl:=oi h
   refine WP.ret (Out.three rfl S (Res.cellB (i:=1) (cs:=[(int 0),(int 0),(str []),(.slice none 0 0),(str [])]) S u rfl lay24 rfl rfl) rfl rfl ?_)
   exact ⟨_,rfl,Sl.nil⟩
  refine CF ai<|Wk<|Ws<|Wg ?_
  refine WL.w (R.loadBN (i:=0) (vs:=[(int b.1),(int b.2.1),(str b.2.2.1),c,(str q.1)]) S ap rfl lay24 rfl rfl)<|M ?_
  refine W.store (i:=1) [(int b.1),(int b.2.1),(str b.2.2.1),c,(str q.1)] S u rfl rfl lay24 rfl (AllOne.all (l:=[(int b.1),(int b.2.1),(str b.2.2.1),c,(str q.1)]) (.cons rfl (.cons rfl (.cons rfl (.cons (Sl.oneC d) (.cons rfl .nil)))))) (Nat.le_of_ble_eq_true rfl) rfl ?_
  intro b4 S
  refine A<|A<|We ?_
  obtain rfl:=oi h
  refine WP.ret (Out.three rfl S (Res.cellB (i:=1) (cs:=[(int b.1),(int b.2.1),(str b.2.2.1),c,(str q.1)]) S u rfl lay24 rfl rfl) rfl rfl ?_)
  exact ⟨_,rfl,d⟩
 exact hM.elim
theorem zLf {w0:World} {H0:Hp} (hw:Holds w0 H0) (hG:Tryz.Gl w0) (af:Int) {r:Bool} (h:zKO af=some r) :
  Cb Tryz.prog 3 [(int af)] w0 H0 r:=by
 refine CM 43 Tryz.func3 hw fun S=>?_
 refine Ws<|Wg<|A<|We<|Ws<|Wg<|M<|B h fun b a8 h=>W.call S rfl (zLo S.holds (hG.post S.post) af a8) ?_
 rintro v2 w3 H4 b7 S ⟨x,rfl,d⟩
 refine W.alloc [(int 0),(int 0),(str []),(.slice none 0 0),(str [])] S zer24 ?_
 intro b8 w9 S
 refine W.store (i:=0) [(int b.fMinor),(int b.fStatus),(str b.fReason),x,(str b.fBody)] S rfl rfl rfl lay24 rfl (AllOne.all (l:=[(int b.fMinor),(int b.fStatus),(str b.fReason),x,(str b.fBody)]) (.cons rfl (.cons rfl (.cons rfl (.cons (Sl.oneC d) (.cons rfl .nil)))))) (Nat.le_of_ble_eq_true rfl) rfl ?_
 intro ca S
 refine We<|Ws<|Ws<|WP.draw kr 5 rfl (bm 5 0) rfl ?_
 have S:=S.drew
 refine At_ 1 5 2 rfl (fun _=>(R.mv (v:=int af) rfl)) ?_
 refine WA.two (i:=0) (j:=2) (bm 5 3) (bm 5 6) rfl rfl kr rfl rfl ?_ ?_
 ·refine WL.w (R.loadBN (i:=0) (vs:=[(int b.fMinor),(int b.fStatus),(str b.fReason),x,(str b.fBody)]) S rfl rfl lay24 rfl rfl)<|We<|WA.one (i:=2) (bm 5 7) rfl kr rfl<|B h fun ao ap h=>W.call S rfl (zLZ S.holds (hG.post S.post) af ap) ?_
  rintro a9 ba bb aq S ⟨bc,rfl,o⟩
  have d:=d.up aq
  refine We<|WA.one (i:=3) (bm 5 15) rfl kr rfl<|B h fun bd ar h=>W.call S rfl (zKQ S.holds (hG.post S.post) b ao d o ar) ?_
  rintro be bf bg au S rfl
  have ⟨d,o⟩:=U2 au d o
  refine We ?_
  refine At_ 4 5 31 rfl (fun _=>(R.not rfl))<|WA.done kr ?_
  rcases condE h with ⟨ab,h⟩ | ⟨ab,h⟩
  ·refine CT ab<|Ws<|Wg<|A<|We ?_
   exact WP.ret (Rb h S)
  refine CF ab<|Wk<|Ws<|Ws<|Wg<|Fb ?_
  refine Lo 0 S<|Le<|We ?_
  rcases condE h with ⟨ac,h⟩ | ⟨ac,h⟩
  ·refine CT ac<|Ws<|Wg<|B h fun bh av h=>W.call S rfl (zAR S.holds (hG.post S.post)  av) ?_
   rintro bi bj bk aw S rfl
   have ⟨d,o⟩:=U2 aw d o
   refine A<|We ?_
   exact WP.ret (Rb h S)
  refine CF ac<|Wk<|Ws<|Wg ?_
  refine WL.w (R.loadBN (i:=0) (vs:=[(int b.fMinor),(int b.fStatus),(str b.fReason),x,(str b.fBody)]) S rfl rfl lay24 rfl rfl)<|B h fun ad ax h=>W.call S rfl (zKW S.holds (hG.post S.post) b [71,69,84] d ax) ?_
  rintro bn bo bp ay S rfl
  have ⟨d,o⟩:=U2 ay d o
  refine A<|We<|Ws<|Wg<|M<|B h fun c az h=>W.call S rfl (zKb S.holds (hG.post S.post) ad [71,69,84] false az) ?_
  rintro bq br ah a0 S ⟨z,rfl,u⟩
  have ⟨d,o⟩:=U2 a0 d o
  refine M ?_
  refine Ex ?_
  refine Ex ?_
  refine Ex ?_
  refine W.alloc [(int 0),(int 0),(str []),(.slice none 0 0),(str [])] S zer24 ?_
  intro ai bs S
  refine W.store (i:=0) [(int c.1.fMinor),(int c.1.fStatus),(str c.1.fReason),z,(str c.1.fBody)] S rfl rfl rfl lay24 rfl (AllOne.all (l:=[(int c.1.fMinor),(int c.1.fStatus),(str c.1.fReason),z,(str c.1.fBody)]) (.cons rfl (.cons rfl (.cons rfl (.cons (Sl.oneC u) (.cons rfl .nil)))))) (Nat.le_of_ble_eq_true rfl) rfl ?_
  intro bt S
  refine A<|A<|We<|Ws<|Wg<|M<|Le<|M ?_
  refine WL.grp 5 [30,31,32,33] 34 (boo ((c.2.2==0)&&(c.2.1==(ad.length:Int)))) ?_ ?_
  ·rcases boolE (c.2.2==0) with f | f
   ·refine Gy f<|M<|Gy f<|M<|Gy f<|Ns<|Gy f<|Le<|Pt f ?_
    exact We ⟨(andT f),ag,rfl⟩
   refine Gn f<|Gn f<|Gn f<|Gn f<|Pf f ?_
   exact We ⟨(andF f),ag,rfl⟩
  intro us
  refine M<|B h fun aj p h=>WL.grpw 4 [36,37,38] 39 (boo aj) (fun w=>∃ H':Hp,ah.le H'∧St w0 H0 w H' [.box ai 24 [(int c.1.fMinor),(int c.1.fStatus),(str c.1.fReason),z,(str c.1.fBody)],.box b8 24 [(int b.fMinor),(int b.fStatus),(str b.fReason),x,(str b.fBody)]]) ?_ ?_
  ·rcases boolE ((c.2.2==0)&&(c.2.1==(ad.length:Int))) with k | k
   ·replace p:=condT p k
    refine Gy k ?_
    refine WL.w (R.loadBN (i:=0) (vs:=[(int c.1.fMinor),(int c.1.fStatus),(str c.1.fReason),z,(str c.1.fBody)]) S rfl rfl lay24 rfl rfl)<|Gy k ?_
    refine WL.w (R.loadBN (i:=1) (vs:=[(int b.fMinor),(int b.fStatus),(str b.fReason),x,(str b.fBody)]) S rfl rfl lay24 rfl rfl)<|Gy k<|B p fun bu a1 p=>W.call S rfl (zKQ S.holds (hG.post S.post) c.1 b u d a1) ?_
    rintro bv bw a2 am S rfl
    have ⟨d,o,u⟩:=U3 am d o u
    refine Pt k ?_
    exact We ⟨(ob p),ag,⟨a2,am,S⟩⟩
   replace p:=condF p k
   refine Gn k<|Gn k<|Gn k<|Pf k ?_
   exact We ⟨(ob p),ag,⟨ah,lr,S⟩⟩
  intro us bx ⟨ak,a6,S⟩
  have ⟨d,o,u⟩:=U3 a6 d o u
  refine M<|B h fun a3 q h=>WL.grpw 2 [41] 42 (boo a3) (fun w=>∃ H':Hp,ak.le H'∧St w0 H0 w H' [.box ai 24 [(int c.1.fMinor),(int c.1.fStatus),(str c.1.fReason),z,(str c.1.fBody)],.box b8 24 [(int b.fMinor),(int b.fStatus),(str b.fReason),x,(str b.fBody)]]) ?_ ?_
  ·rcases boolE aj with t | t
   ·replace q:=condT q t
    refine Gy t<|B q fun bz a4 q=>W.call S rfl (zAR S.holds (hG.post S.post)  a4) ?_
    rintro b0 b1 a5 an S rfl
    have ⟨d,o,u⟩:=U3 an d o u
    refine Pt t ?_
    exact We ⟨(ob q),ag,⟨a5,an,S⟩⟩
   replace q:=condF q t
   refine Gn t<|Pf t ?_
   exact We ⟨(ob q),ag,⟨ak,lr,S⟩⟩
  intro us b2 ⟨b3,a7,S⟩
  have ⟨d,o,u⟩:=U3 a7 d o u
  refine A<|We ?_
  exact WP.ret (Rb h S)
 refine B h fun ao ap h=>W.call S rfl (zLZ S.holds (hG.post S.post) af ap) ?_
 rintro a9 ba bb aq S ⟨bc,rfl,o⟩
 have d:=d.up aq
 refine We<|WA.one (i:=0) (bm 5 7) rfl kr rfl ?_
 refine WL.w (R.loadBN (i:=0) (vs:=[(int b.fMinor),(int b.fStatus),(str b.fReason),x,(str b.fBody)]) S rfl rfl lay24 rfl rfl)<|We<|WA.one (i:=3) (bm 5 15) rfl kr rfl<|B h fun bd ar h=>W.call S rfl (zKQ S.holds (hG.post S.post) b ao d o ar) ?_
 rintro be bf bg au S rfl
 have d:=d.up au
 refine We ?_
 refine At_ 4 5 31 rfl (fun _=>(R.not rfl))<|WA.done kr ?_
 rcases condE h with ⟨ab,h⟩ | ⟨ab,h⟩
 ·refine CT ab<|Ws<|Wg<|A<|We ?_
  exact WP.ret (Rb h S)
 refine CF ab<|Wk<|Ws<|Ws<|Wg<|Fb ?_
 refine Lo 0 S<|Le<|We ?_
 rcases condE h with ⟨ac,h⟩ | ⟨ac,h⟩
 ·refine CT ac<|Ws<|Wg<|B h fun bh av h=>W.call S rfl (zAR S.holds (hG.post S.post)  av) ?_
  rintro bi bj bk aw S rfl
  have d:=d.up aw
  refine A<|We ?_
  exact WP.ret (Rb h S)
 refine CF ac<|Wk<|Ws<|Wg ?_
 refine WL.w (R.loadBN (i:=0) (vs:=[(int b.fMinor),(int b.fStatus),(str b.fReason),x,(str b.fBody)]) S rfl rfl lay24 rfl rfl)<|B h fun ad ax h=>W.call S rfl (zKW S.holds (hG.post S.post) b [71,69,84] d ax) ?_
 rintro bn bo bp ay S rfl
 have d:=d.up ay
 refine A<|We<|Ws<|Wg<|M<|B h fun c az h=>W.call S rfl (zKb S.holds (hG.post S.post) ad [71,69,84] false az) ?_
 rintro bq br ah a0 S ⟨z,rfl,u⟩
 have d:=d.up a0
 refine M ?_
 refine Ex ?_
 refine Ex ?_
 refine Ex ?_
 refine W.alloc [(int 0),(int 0),(str []),(.slice none 0 0),(str [])] S zer24 ?_
 intro ai bs S
 refine W.store (i:=0) [(int c.1.fMinor),(int c.1.fStatus),(str c.1.fReason),z,(str c.1.fBody)] S rfl rfl rfl lay24 rfl (AllOne.all (l:=[(int c.1.fMinor),(int c.1.fStatus),(str c.1.fReason),z,(str c.1.fBody)]) (.cons rfl (.cons rfl (.cons rfl (.cons (Sl.oneC u) (.cons rfl .nil)))))) (Nat.le_of_ble_eq_true rfl) rfl ?_
 intro bt S
 refine A<|A<|We<|Ws<|Wg<|M<|Le<|M ?_
 refine WL.grp 5 [30,31,32,33] 34 (boo ((c.2.2==0)&&(c.2.1==(ad.length:Int)))) ?_ ?_
 ·rcases boolE (c.2.2==0) with f | f
  ·refine Gy f<|M<|Gy f<|M<|Gy f<|Ns<|Gy f<|Le<|Pt f ?_
   exact We ⟨(andT f),ag,rfl⟩
  refine Gn f<|Gn f<|Gn f<|Gn f<|Pf f ?_
  exact We ⟨(andF f),ag,rfl⟩
 intro us
 refine M<|B h fun aj p h=>WL.grpw 4 [36,37,38] 39 (boo aj) (fun w=>∃ H':Hp,ah.le H'∧St w0 H0 w H' [.box ai 24 [(int c.1.fMinor),(int c.1.fStatus),(str c.1.fReason),z,(str c.1.fBody)],.box b8 24 [(int b.fMinor),(int b.fStatus),(str b.fReason),x,(str b.fBody)]]) ?_ ?_
 ·rcases boolE ((c.2.2==0)&&(c.2.1==(ad.length:Int))) with k | k
  ·replace p:=condT p k
   refine Gy k ?_
   refine WL.w (R.loadBN (i:=0) (vs:=[(int c.1.fMinor),(int c.1.fStatus),(str c.1.fReason),z,(str c.1.fBody)]) S rfl rfl lay24 rfl rfl)<|Gy k ?_
   refine WL.w (R.loadBN (i:=1) (vs:=[(int b.fMinor),(int b.fStatus),(str b.fReason),x,(str b.fBody)]) S rfl rfl lay24 rfl rfl)<|Gy k<|B p fun bu a1 p=>W.call S rfl (zKQ S.holds (hG.post S.post) c.1 b u d a1) ?_
   rintro bv bw a2 am S rfl
   refine Pt k ?_
   exact We ⟨(ob p),ag,⟨a2,am,S⟩⟩
  replace p:=condF p k
  refine Gn k<|Gn k<|Gn k<|Pf k ?_
  exact We ⟨(ob p),ag,⟨ah,lr,S⟩⟩
 intro us bx ⟨ak,a6,S⟩
 refine M<|B h fun a3 q h=>WL.grpw 2 [41] 42 (boo a3) (fun w=>∃ H':Hp,ak.le H'∧St w0 H0 w H' [.box ai 24 [(int c.1.fMinor),(int c.1.fStatus),(str c.1.fReason),z,(str c.1.fBody)],.box b8 24 [(int b.fMinor),(int b.fStatus),(str b.fReason),x,(str b.fBody)]]) ?_ ?_
 ·rcases boolE aj with t | t
  ·replace q:=condT q t
   refine Gy t<|B q fun bz a4 q=>W.call S rfl (zAR S.holds (hG.post S.post)  a4) ?_
   rintro b0 b1 a5 an S rfl
   refine Pt t ?_
   exact We ⟨(ob q),ag,⟨a5,an,S⟩⟩
  replace q:=condF q t
  refine Gn t<|Pf t ?_
  exact We ⟨(ob q),ag,⟨ak,lr,S⟩⟩
 intro us b2 ⟨b3,a7,S⟩
 refine A<|We ?_
 exact WP.ret (Rb h S)
end Go.Proofs
