/- A part. -/
import Derived.Test.YtljjaiijlaeoeaaGreatDoorEng38
import Derived.Test.YtljjaiijlaeoeaaGreatDoorEng36
import Derived.Test.YtljjaiijlaeoeaaGreatDoorGenP12
namespace Go.Proofs
set_option maxHeartbeats 4000000
set_option maxRecDepth 10000
open Go.Eng Go.Eng.Pure
set_option linter.unusedVariables false
theorem zFs {i:World} {j:Hp} (hw:Holds i j) (hG:Tryz.Gl i) (b:Str) {r:Bool} (h:zED b=some r) :
  Cb Tryz.prog 191 [(str b)] i j r:=by
 refine CM 17 Tryz.func191 hw fun S=>?_
 refine Ws<|Wg<|A<|We<|Ws<|Wg<|M<|Nb<|M ?_
 refine WL.grp 3 [6,7] 8 (boo ((b !=[71,69,84])&&(b !=[72,69,65,68]))) ?_ ?_
 ·rcases boolE (b !=[71,69,84]) with c | c
  ·refine Gy c<|M<|Gy c<|Nb<|Pt c ?_
   exact We ⟨(andT c),ag,rfl⟩
  refine Gn c<|Gn c<|Pf c ?_
  exact We ⟨(andF c),ag,rfl⟩
 intro us
 refine M ?_
 refine WL.grp 3 [10,11] 12 (boo (((b !=[71,69,84])&&(b !=[72,69,65,68]))&&(b !=[79,80,84,73,79,78,83]))) ?_ ?_
 ·rcases boolE ((b !=[71,69,84])&&(b !=[72,69,65,68])) with d | d
  ·refine Gy d<|M<|Gy d<|Nb<|Pt d ?_
   exact We ⟨(andT d),ag,rfl⟩
  refine Gn d<|Gn d<|Pf d ?_
  exact We ⟨(andF d),ag,rfl⟩
 intro us
 refine M ?_
 refine WL.grp 3 [14,15] 16 (boo ((((b !=[71,69,84])&&(b !=[72,69,65,68]))&&(b !=[79,80,84,73,79,78,83]))&&(b !=[84,82,65,67,69]))) ?_ ?_
 ·rcases boolE (((b !=[71,69,84])&&(b !=[72,69,65,68]))&&(b !=[79,80,84,73,79,78,83])) with f | f
  ·refine Gy f<|M<|Gy f<|Nb<|Pt f ?_
   exact We ⟨(andT f),ag,rfl⟩
  refine Gn f<|Gn f<|Pf f ?_
  exact We ⟨(andF f),ag,rfl⟩
 intro us
 refine A<|We ?_
 exact WP.ret (Rb h S)
theorem zEK {i:World} {k:Hp} (hw:Holds i k) (hG:Tryz.Gl i) (j:Str) (d:Int) {r:Bool} (h:zC4 j d=some r) :
  Cb Tryz.prog 124 [(str j),(int d)] i k r:=by
 refine CM 15 Tryz.func124 hw fun S=>?_
 refine Ws<|Wg<|A<|We<|Ws<|Wg<|M<|B h fun f l h=>W.call S rfl (zFs S.holds (hG.post S.post) j l) ?_
 rintro o p q t S rfl
 refine M ?_
 refine WL.grp 3 [8,9] 10 (boo (f&&(decide (200≤d)))) ?_ ?_
 ·rcases boolE f with b | b
  ·refine Gy b<|M<|Gy b<|Ld<|Pt b ?_
   exact We ⟨(andT b),ag,rfl⟩
  refine Gn b<|Gn b<|Pf b ?_
  exact We ⟨(andF b),ag,rfl⟩
 intro us
 refine M ?_
 refine WL.grp 3 [12,13] 14 (boo ((f&&(decide (200≤d)))&&(decide (d≤399)))) ?_ ?_
 ·rcases boolE (f&&(decide (200≤d))) with c | c
  ·refine Gy c<|M<|Gy c<|Lb<|Pt c ?_
   exact We ⟨(andT c),ag,rfl⟩
  refine Gn c<|Gn c<|Pf c ?_
  exact We ⟨(andF c),ag,rfl⟩
 intro us
 refine A<|We ?_
 exact WP.ret (Rb h S)
theorem zFc {b:World} {c:Hp} (hw:Holds b c) (hG:Tryz.Gl b) (j:(List GField)) {p:Value} (q:Sl c p j) {r:((List Str)×Bool)} (h:zFS j=some r) :
  Con Tryz.prog 194 [p] b c (fun H' v=>∃ t:Value,v=(.tuple ⟨[t,(boo r.2)]⟩)∧Sl H' t r.1):=by
 refine CM 36 Tryz.func194 hw fun S=>?_
 have ao:=q
 refine Ws<|Wg<|A<|A<|We<|Ws<|Wg<|M<|B h fun u ab h=>W.call S rfl (zDF S.holds (hG.post S.post) j [86,97,114,121] q ab) ?_
 rintro v2 w3 H4 ar S x
 refine A<|We<|Ws<|Ws<|Wg<|M<|Nq x<|Ld<|We ?_
 rcases condE h with ⟨k,h⟩ | ⟨k,h⟩
 ·refine CT k ?_
  cases h
 refine CF k<|Wk<|Ws<|Wg<|A<|We<|Ws<|Ws<|Wg<|M<|Nq x<|M ?_
 refine We<|B h fun ad ae h=>WP.cut (fun f w=>∃ (z:Hp),f 5=(.slice none 0 0)∧St b c w z []) ?_ ?_
 ·refine Wb ?_
  refine WP.loopM (zFb u) (fun s f w=>match s with | _=>∃ (l:Hp),f 5=(.slice none 0 0)∧f 14=(int (u.length:Int))∧f 15=(int 0)∧St b c w l []) () ad (lfW ae) ?_ ?_
  ·exact ⟨H4,rfl,rfl,rfl,S⟩
  intro s f w hI au d af
  obtain ⟨l,h9,ai,aj,S⟩:=hI
  refine Ws<|Wg<|La' aj ai<|We<|Ws ?_
  rcases condE d with ⟨o,d⟩ | ⟨o,d⟩
  ·refine CT o ?_
   cases d
  refine CF o<|Wx ?_
  obtain rfl:=oi d
  obtain rfl:=af
  exact ⟨l,h9,S⟩
 rintro f w ⟨z,aa,S⟩
 refine Ws<|Wg<|M' aa ?_
 have S:=S.addNil 9 1
 refine B h fun av ak h=>W.sortRow (i:=0) zEp hw S rfl rfl Sl.nil ak ?_
 intro aw ax ay al S
 refine We<|Ws<|Wg<|M' aa<|B h fun az am h=>W.compactRow (i:=0) zD1 hw S rfl rfl al am ?_
 intro a0 a1 a2 a3 an S
 refine A<|A<|We ?_
 obtain rfl:=oi h
 refine WP.ret (Out.two rfl S rfl rfl ?_)
 exact ⟨_,rfl,an⟩
theorem zEr {w0:World} {H0:Hp} (hw:Holds w0 H0) (hG:Tryz.Gl w0) (c:GRequest) (d:GResponse) {ae:Value} {af:Value} (j:Sl H0 ae c.fFields) (f:Sl H0 af d.fFields) {r:Bool} (h:zDe c d=some r) :
  Cb Tryz.prog 126 [(agg [(str c.fMethod),(str c.fTarget),(int c.fMinor),ae,(str c.fBody)]),(agg [(int d.fMinor),(int d.fStatus),(str d.fReason),af,(str d.fBody)])] w0 H0 r:=by
 refine CM 69 Tryz.func126 hw fun S=>?_
 refine Ws<|Wg ?_
 refine W.box [(str c.fMethod),(str c.fTarget),(int c.fMinor),ae,(str c.fBody)] S rfl rfl ?_
 intro b1 w2 S
 refine W.box [(int d.fMinor),(int d.fStatus),(str d.fReason),af,(str d.fBody)] S rfl rfl ?_
 intro b3 w4 S
 refine A<|We<|Ws<|Ws<|Wg<|Fb ?_
 refine Lo 1 S<|Nb<|M ?_
 refine WL.grp 4 [12,13,14] 15 (boo ((c.fMethod !=[71,69,84])||(d.fStatus !=200))) ?_ ?_
 ·rcases boolE (c.fMethod !=[71,69,84]) with o | o
  ·refine Gn o<|Gn o<|Gn o<|Pt o ?_
   exact We ⟨(orT o),ag,rfl⟩
  refine Gy o<|Fb<|Gy o ?_
  refine Lo 0 S<|Gy o<|Lf<|Pf o ?_
  exact We ⟨(orF o),ag,rfl⟩
 intro us
 refine We ?_
 rcases condE h with ⟨ah,h⟩ | ⟨ah,h⟩
 ·refine CT ah ?_
  cases h
 refine CF ah<|Wk<|Ws<|Wg<|Fb ?_
 refine Lo 0 S<|B h fun b au h=>W.call S rfl (zAa S.holds (hG.post S.post) d.fFields f au) ?_
 rintro v9 bc ao av S rfl
 have ⟨j,f⟩:=U2 av j f
 refine W.alloc [(boo false),(boo false),(boo false),(boo false),(boo false),(boo false),(boo false),(int 0),(int 0),(int 0),(int 0)] S zGh ?_
 intro ap bd S
 refine W.store (i:=0) [(boo b.fNoStore),(boo b.fNoCache),(boo b.fMustRevalidate),(boo b.fProxyRevalidate),(boo b.fPrivate),(boo b.fPublic),(boo b.fOnlyIfCached),(int b.fMaxAge),(int b.fSMaxAge),(int b.fMinFresh),(int b.fMaxStale)] S rfl rfl rfl zEb rfl rfl (Nat.le_of_ble_eq_true rfl) rfl ?_
 intro be S
 refine We<|Ws<|Ws<|Wg<|Fb ?_
 refine Lo 0 S<|M ?_
 refine WL.grp 3 [22,23] 24 (boo (b.fNoStore||b.fPrivate)) ?_ ?_
 ·rcases boolE b.fNoStore with x | x
  ·refine Gn x<|Gn x<|Pt x ?_
   exact We ⟨(orT x),ag,rfl⟩
  refine Gy x<|Fb<|Gy x ?_
  refine Lo 0 S<|Pf x ?_
  exact We ⟨(orF x),ag,rfl⟩
 intro us
 refine M<|B h fun aw z h=>WL.grpw 5 [26,27,28,29] 30 (boo aw) (fun w=>∃ H':Hp,ao.le H'∧St w0 H0 w H' [.box ap 164 [(boo b.fNoStore),(boo b.fNoCache),(boo b.fMustRevalidate),(boo b.fProxyRevalidate),(boo b.fPrivate),(boo b.fPublic),(boo b.fOnlyIfCached),(int b.fMaxAge),(int b.fSMaxAge),(int b.fMinFresh),(int b.fMaxStale)],.box b3 24 [(int d.fMinor),(int d.fStatus),(str d.fReason),af,(str d.fBody)],.box b1 94 [(str c.fMethod),(str c.fTarget),(int c.fMinor),ae,(str c.fBody)]]) ?_ ?_
 ·rcases boolE (b.fNoStore||b.fPrivate) with k | k
  ·replace z:=condT z k
   refine Gn k<|Gn k<|Gn k<|Gn k<|Pt k ?_
   exact We ⟨(ob z),ag,⟨ao,lr,S⟩⟩
  replace z:=condF z k
  refine Gy k<|Fb<|Gy k ?_
  refine Lo 2 S<|Gy k<|B z fun l ax z=>W.call S rfl (zA5 S.holds (hG.post S.post) c.fFields j ax) ?_
  rintro bf bg ay aq S rfl
  have ⟨j,f⟩:=U2 aq j f
  refine Gy k ?_
  refine WL.w (v:=boo l.fNoStore) (R.fieldV (cs:=[(boo l.fNoStore),(boo l.fNoCache),(boo l.fMustRevalidate),(boo l.fProxyRevalidate),(boo l.fPrivate),(boo l.fPublic),(boo l.fOnlyIfCached),(int l.fMaxAge),(int l.fSMaxAge),(int l.fMinFresh),(int l.fMaxStale)]) rfl zIg lay4 rfl)<|Pf k ?_
  exact We ⟨(ob z),ag,⟨ay,aq,S⟩⟩
 intro us bh ⟨bi,az,S⟩
 have ⟨j,f⟩:=U2 az j f
 refine We ?_
 rcases condE h with ⟨ai,h⟩ | ⟨ai,h⟩
 ·refine CT ai ?_
  cases h
 refine CF ai<|Wk<|Ws<|Ws<|Wg<|Fb ?_
 refine Lo 1 S<|B h fun bj a0 h=>W.call S rfl (zFc S.holds (hG.post S.post) d.fFields f a0) ?_
 rintro bk bn bo a1 S ⟨bp,rfl,bq⟩
 have ⟨j,f⟩:=U2 a1 j f
 refine M ?_
 refine Ex ?_
 refine Ex<|A<|A<|We<|Ws<|Wg<|M<|No<|We ?_
 rcases condE h with ⟨aj,h⟩ | ⟨aj,h⟩
 ·refine CT aj ?_
  cases h
 refine CF aj<|Wk<|Ws<|Ws<|Wg<|Fb ?_
 refine Lo 2 S<|B h fun br a2 h=>W.call S rfl (zAj S.holds (hG.post S.post) c.fFields [82,97,110,103,101] j a2) ?_
 rintro bs bt bu a3 S rfl
 have ⟨j,f⟩:=U2 a3 j f
 refine We ?_
 rcases condE h with ⟨ak,h⟩ | ⟨ak,h⟩
 ·refine CT ak ?_
  cases h
 refine CF ak<|Wk<|Ws<|Ws<|Wg<|Fb ?_
 refine Lo 2 S<|B h fun ab a4 h=>W.call S rfl (zAj S.holds (hG.post S.post) c.fFields [65,117,116,104,111,114,105,122,97,116,105,111,110] j a4) ?_
 rintro bv bw bx a5 S rfl
 have f:=f.up a5
 refine M ?_
 refine WL.grp 4 [46,47,48] 49 (boo (ab&&(!b.fMustRevalidate))) ?_ ?_
 ·rcases boolE ab with p | p
  ·refine Gy p<|Fb<|Gy p ?_
   refine Lo 0 S<|Gy p<|No<|Pt p ?_
   exact We ⟨(andT p),ag,rfl⟩
  refine Gn p<|Gn p<|Gn p<|Pf p ?_
  exact We ⟨(andF p),ag,rfl⟩
 intro us
 refine M ?_
 refine WL.grp 4 [51,52,53] 54 (boo ((ab&&(!b.fMustRevalidate))&&(!b.fPublic))) ?_ ?_
 ·rcases boolE (ab&&(!b.fMustRevalidate)) with q | q
  ·refine Gy q<|Fb<|Gy q ?_
   refine Lo 0 S<|Gy q<|No<|Pt q ?_
   exact We ⟨(andT q),ag,rfl⟩
  refine Gn q<|Gn q<|Gn q<|Pf q ?_
  exact We ⟨(andF q),ag,rfl⟩
 intro us
 refine M ?_
 refine WL.grp 4 [56,57,58] 59 (boo (((ab&&(!b.fMustRevalidate))&&(!b.fPublic))&&(b.fSMaxAge==(-1)))) ?_ ?_
 ·rcases boolE ((ab&&(!b.fMustRevalidate))&&(!b.fPublic)) with t | t
  ·refine Gy t<|Fb<|Gy t ?_
   refine Lo 0 S<|Gy t<|Le<|Pt t ?_
   exact We ⟨(andT t),ag,rfl⟩
  refine Gn t<|Gn t<|Gn t<|Pf t ?_
  exact We ⟨(andF t),ag,rfl⟩
 intro us
 refine We ?_
 rcases condE h with ⟨al,h⟩ | ⟨al,h⟩
 ·refine CT al ?_
  cases h
 refine CF al<|Wk<|Ws<|Wg<|Fb ?_
 refine Lo 1 S<|B h fun a6 a7 h=>W.call S rfl (zB1 S.holds (hG.post S.post) d.fFields f a7) ?_
 rintro bz b0 ar b2 S rfl
 refine Lc<|M<|B h fun a8 ac h=>WL.grpw 4 [65,66,67] 68 (boo a8) (fun w=>∃ H':Hp,ar.le H'∧St w0 H0 w H' [.box ap 164 [(boo b.fNoStore),(boo b.fNoCache),(boo b.fMustRevalidate),(boo b.fProxyRevalidate),(boo b.fPrivate),(boo b.fPublic),(boo b.fOnlyIfCached),(int b.fMaxAge),(int b.fSMaxAge),(int b.fMinFresh),(int b.fMaxStale)],.box b3 24 [(int d.fMinor),(int d.fStatus),(str d.fReason),af,(str d.fBody)],.box b1 94 [(str c.fMethod),(str c.fTarget),(int c.fMinor),ae,(str c.fBody)]]) ?_ ?_
 ·rcases boolE (decide (0<a6)) with u | u
  ·replace ac:=condT ac u
   refine Gn u<|Gn u<|Gn u<|Pt u ?_
   exact We ⟨(ob ac),ag,⟨ar,lr,S⟩⟩
  replace ac:=condF ac u
  refine Gy u<|Fb<|Gy u ?_
  refine Lo 1 S<|Gy u ?_
  cases ac
 intro us b4 ⟨b5,b6,S⟩
 refine A<|We ?_
 exact WP.ret (Rb h S)
theorem zF7 {b:World} {c:Hp} (hw:Holds b c) (hG:Tryz.Gl b) (d:(List GField)) {i:Value} (k:Sl c i d) {r:((List GAxis)×Int)} (h:zEc d=some r) :
  Con Tryz.prog 195 [i] b c (fun H' v=>∃ j:Value,v=(.tuple ⟨[j,(int r.2)]⟩)∧Sl H' j r.1):=by
 refine CM 52 Tryz.func195 hw fun S=>?_
 refine Ws<|Wg<|A<|A<|We<|Ws<|Ws<|Wg<|M<|B h fun o l h=>W.call S rfl (zAj S.holds (hG.post S.post) d [86,97,114,105,97,110,116,115] k l) ?_
 rintro p q t u S rfl
 refine No<|We ?_
 rcases condE h with ⟨f,h⟩ | ⟨f,h⟩
 ·refine CT f<|Ws<|Wg<|A<|A<|We ?_
  obtain rfl:=oi h
  refine WP.ret (Out.two rfl S rfl rfl ?_)
  exact ⟨_,rfl,Sl.nil⟩
 refine CF f ?_
 cases h
theorem zBy {d:World} {f:Hp} (hw:Holds d f) (hG:Tryz.Gl d) (c:(List GAxis)) {j:Value} (k:Sl f j c) {r:Bool} (h:zCs c=some r) :
  Cb Tryz.prog 198 [j] d f r:=by
 refine CM 54 Tryz.func198 hw fun S=>?_
 refine Ws<|Wg<|A<|We<|Ws<|Ws<|Wg<|M<|Nq k<|La<|M ?_
 refine WL.grp 4 [11,12,13] 14 (boo ((decide ((c.length:Int)<1))||(decide (4<(c.length:Int))))) ?_ ?_
 ·rcases boolE (decide ((c.length:Int)<1)) with b | b
  ·refine Gn b<|Gn b<|Gn b<|Pt b ?_
   exact We ⟨(orT b),ag,rfl⟩
  refine Gy b<|M<|Gy b<|Nq k<|Gy b<|Lc<|Pf b ?_
  exact We ⟨(orF b),ag,rfl⟩
 intro us
 refine We ?_
 rcases condE h with ⟨i,h⟩ | ⟨i,h⟩
 ·refine CT i<|Ws<|Wg<|A<|We ?_
  exact WP.ret (Rb h S)
 refine CF i ?_
 cases h
theorem zFL {c:World} {b:Hp} (hw:Holds c b) (hG:Tryz.Gl c) (i:(List GField)) (d:(List GAxis)) {j:Value} {k:Value} (q:Sl b j i) (o:Sl b k d) {r:((List (List Str))×Int)} (h:zDv i d=some r) :
  Con Tryz.prog 196 [j,k] c b (fun H' v=>∃ l:Value,v=(.tuple ⟨[l,(int r.2)]⟩)∧Sl H' l r.1):=by
 refine CM 67 Tryz.func196 hw fun S=>?_
 refine Ws<|Wg<|A<|A<|We<|Ws<|Ws<|Wg<|M<|B h fun t p h=>W.call S rfl (zBy S.holds (hG.post S.post) d o p) ?_
 rintro u x z aa S rfl
 refine No<|We ?_
 rcases condE h with ⟨f,h⟩ | ⟨f,h⟩
 ·refine CT f<|Ws<|Wg<|A<|A<|We ?_
  obtain rfl:=oi h
  refine WP.ret (Out.two rfl S rfl rfl ?_)
  exact ⟨_,rfl,Sl.nil⟩
 refine CF f ?_
 cases h
theorem zFJ {w0:World} {o:Hp} (hw:Holds w0 o) (hG:Tryz.Gl w0) (c:GRequest) (b:GResponse) (d:Int) (j:Int) {aa:Value} {u:Value} (ab:Sl o aa c.fFields) (t:Sl o u b.fFields) {r:(GEntry×(List GAxis))} (h:zGo c b d j=some r) :
  Con Tryz.prog 127 [(agg [(str c.fMethod),(str c.fTarget),(int c.fMinor),aa,(str c.fBody)]),(agg [(int b.fMinor),(int b.fStatus),(str b.fReason),u,(str b.fBody)]),(int d),(int j)] w0 o (fun H' v=>∃ u1 u2 u3 u4 u5:Value,v=(.tuple ⟨[(agg [u1,u2,u3,(str r.1.fReason),u4,(str r.1.fBody),(int r.1.fRequested),(int r.1.fReceived)]),u5]⟩)∧Sl H' u1 r.1.fKeys∧Sl H' u2 r.1.fVary∧Sl H' u3 r.1.fSnapshot∧Sl H' u4 r.1.fFields∧Sl H' u5 r.2):=by
 refine CM 62 Tryz.func127 hw fun S=>?_
 refine Ws<|Wg ?_
 refine W.box [(str c.fMethod),(str c.fTarget),(int c.fMinor),aa,(str c.fBody)] S rfl rfl ?_
 intro b1 w2 S
 refine W.box [(int b.fMinor),(int b.fStatus),(str b.fReason),u,(str b.fBody)] S rfl rfl ?_
 intro b3 w4 S
 refine W.alloc [(.slice none 0 0),(.slice none 0 0),(.slice none 0 0),(str []),(.slice none 0 0),(str []),(int 0),(int 0)] S zer92 ?_
 intro b5 w6 S
 refine A<|We<|Ws<|B h fun r7 a6 h=>WP.cut (fun f w=>∃ (af:Hp) (aq:Nat) (p:Value),f 4=(ptr b1 0)∧f 5=(ptr b3 0)∧f 8=(ptr b5 0)∧f 10=(ptr aq 0)∧Sl af p r7∧Sl af u b.fFields∧Sl af aa c.fFields∧St w0 o w af [.box aq 92 [(.slice none 0 0),(.slice none 0 0),(.slice none 0 0),(str b.fReason),p,(str b.fBody),(int d),(int j)],.box b5 92 [(.slice none 0 0),(.slice none 0 0),(.slice none 0 0),(str []),(.slice none 0 0),(str []),(int 0),(int 0)],.box b3 24 [(int b.fMinor),(int b.fStatus),(str b.fReason),u,(str b.fBody)],.box b1 94 [(str c.fMethod),(str c.fTarget),(int c.fMinor),aa,(str c.fBody)]]) ?_ ?_
 ·refine WP.drawC (Cl w0 o o [.box b5 92 [(.slice none 0 0),(.slice none 0 0),(.slice none 0 0),(str []),(.slice none 0 0),(str []),(int 0),(int 0)],.box b3 24 [(int b.fMinor),(int b.fStatus),(str b.fReason),u,(str b.fBody)],.box b1 94 [(str c.fMethod),(str c.fTarget),(int c.fMinor),aa,(str c.fBody)]]) kr 12 rfl (bm 12 0) rfl ?_
  have S:=S.drew
  refine Ct 0 12 1 rfl (fun _ _=>(R.fieldB rfl zIQ)) ?_
  refine Ct 1 12 3 rfl (fun w hw=>by obtain ⟨_,hq,S⟩:=hw; exact (R.loadB (i:=1) (v:=str b.fReason) S rfl rfl lay9 rfl)) ?_
  refine Ct 2 12 7 rfl (fun _ _=>(R.fieldB rfl zHO)) ?_
  refine Ct 3 12 15 rfl (fun w hw=>by obtain ⟨_,hq,S⟩:=hw; exact (R.loadB (i:=1) (v:=u) S rfl rfl lay22 rfl)) ?_
  refine Ct 5 12 47 rfl (fun _ _=>(R.fieldB rfl zIN)) ?_
  refine Ct 6 12 111 rfl (fun w hw=>by obtain ⟨_,hq,S⟩:=hw; exact (R.loadB (i:=1) (v:=str b.fBody) S rfl rfl lay9 rfl)) ?_
  refine Ct 7 12 239 rfl (fun _ _=>(R.mv (v:=int d) rfl)) ?_
  refine Ct 8 12 495 rfl (fun _ _=>(R.mv (v:=int j) rfl)) ?_
  refine Cx [4,10] ⟨o,lr,S⟩ (allS ?_ (all1 ?_))
  ·refine Nx 12 511 rfl<|W.call S rfl (zAL S.holds (hG.post S.post) b.fFields t a6) ?_
   rintro ah bs ak al S ar
   have ⟨ab,t⟩:=U2 al ab t
   refine We ?_
   refine Ct 9 12 1023 rfl (fun _ _=>(R.build [(3,(str b.fReason)),(4,ah),(5,(str b.fBody)),(6,(int d)),(7,(int j))] [(.slice none 0 0),(.slice none 0 0),(.slice none 0 0),(str b.fReason),ah,(str b.fBody),(int d),(int j)] bp92 zer92 kr (by obtain ⟨_,_,rfl,_⟩:=ar; rfl))) ?_
   refine Cx [10] ⟨ak,al,S⟩ (all1 ?_)
   refine Nx 12 2047 rfl ?_
   refine W.alloc [(.slice none 0 0),(.slice none 0 0),(.slice none 0 0),(str []),(.slice none 0 0),(str []),(int 0),(int 0)] S zer92 ?_
   intro a9 bt S
   refine We ?_
   refine Cx [11] ⟨ak,al,(S.pk [1,2,3])⟩ (all1 ?_)
   refine Nx 12 4095 rfl ?_
   refine W.store (i:=0) [(.slice none 0 0),(.slice none 0 0),(.slice none 0 0),(str b.fReason),ah,(str b.fBody),(int d),(int j)] S rfl rfl rfl lay92 rfl (AllOne.all (l:=[(.slice none 0 0),(.slice none 0 0),(.slice none 0 0),(str b.fReason),ah,(str b.fBody),(int d),(int j)]) (.cons rfl (.cons rfl (.cons rfl (.cons rfl (.cons (Sl.oneC ar) (.cons rfl (.cons rfl (.cons rfl .nil))))))))) (Nat.le_of_ble_eq_true rfl) rfl ?_
   intro bu S
   refine We<|WC.done ⟨ak,al,(S.pk [1,2,3])⟩ kr ?_
   exact ⟨ak,a9,ah,rfl,rfl,rfl,rfl,ar,t,ab,S⟩
  refine Nx 12 1519 rfl ?_
  refine W.alloc [(.slice none 0 0),(.slice none 0 0),(.slice none 0 0),(str []),(.slice none 0 0),(str []),(int 0),(int 0)] S zer92 ?_
  intro ba bv S
  refine We ?_
  refine Cx [4] ⟨o,lr,(S.pk [1,2,3])⟩ (all1 ?_)
  refine Nx 12 1535 rfl<|W.call S rfl (zAL S.holds (hG.post S.post) b.fFields t a6) ?_
  rintro ai bw au av S aw
  have ⟨ab,t⟩:=U2 av ab t
  refine We ?_
  refine Ct 9 12 2047 rfl (fun _ _=>(R.build [(3,(str b.fReason)),(4,ai),(5,(str b.fBody)),(6,(int d)),(7,(int j))] [(.slice none 0 0),(.slice none 0 0),(.slice none 0 0),(str b.fReason),ai,(str b.fBody),(int d),(int j)] bp92 zer92 kr (by obtain ⟨_,_,rfl,_⟩:=aw; rfl))) ?_
  refine Cx [11] ⟨au,av,(S.pk [1,2,3])⟩ (all1 ?_)
  refine Nx 12 4095 rfl ?_
  refine W.store (i:=0) [(.slice none 0 0),(.slice none 0 0),(.slice none 0 0),(str b.fReason),ai,(str b.fBody),(int d),(int j)] S rfl rfl rfl lay92 rfl (AllOne.all (l:=[(.slice none 0 0),(.slice none 0 0),(.slice none 0 0),(str b.fReason),ai,(str b.fBody),(int d),(int j)]) (.cons rfl (.cons rfl (.cons rfl (.cons rfl (.cons (Sl.oneC aw) (.cons rfl (.cons rfl (.cons rfl .nil))))))))) (Nat.le_of_ble_eq_true rfl) rfl ?_
  intro bx S
  refine We<|WC.done ⟨au,av,(S.pk [1,2,3])⟩ kr ?_
  exact ⟨au,ba,ai,rfl,rfl,rfl,rfl,aw,t,ab,S⟩
 rintro f w ⟨af,aq,p,bb,ax,a7,am,k,x,z,S⟩
 refine Ws<|Wg<|Fb' ax ?_
 refine Lo 2 S<|B h fun ay bc h=>W.call S rfl (zF7 S.holds (hG.post S.post) b.fFields x bc) ?_
 rintro bz b0 b2 bd S ⟨b4,rfl,be⟩
 have ⟨x,k,z⟩:=U3 bd x k z
 refine M ?_
 refine Ex ?_
 refine Ex<|A<|A<|We<|Ws<|Wg<|Fb' ax ?_
 refine Lo 2 S<|M<|B h fun bf bg h=>W.call S rfl (zFL S.holds (hG.post S.post) b.fFields ay.1 x be bg) ?_
 rintro b6 b7 b8 bh S ⟨b9,rfl,ca⟩
 have ⟨x,k,z⟩:=U3 bh x k z
 refine M ?_
 refine Ex ?_
 refine Ex<|A<|A<|We<|Ws<|Ws<|Wg<|M<|Le<|M ?_
 refine WL.grp 3 [41,42] 43 (boo ((ay.2==0)&&(bf.2==0))) ?_ ?_
 ·rcases boolE (ay.2==0) with q | q
  ·refine Gy q<|M<|Gy q<|Le<|Pt q ?_
   exact We ⟨(andT q),ag,rfl⟩
  refine Gn q<|Gn q<|Pf q ?_
  exact We ⟨(andF q),ag,rfl⟩
 intro us
 refine We ?_
 rcases condE h with ⟨az,h⟩ | ⟨az,h⟩
 ·refine CT az ?_
  cases h
 refine CF az<|Wk<|Ws<|Wg<|Fb' ax ?_
 refine Lo 2 S<|B h fun bi bj h=>W.call S rfl (zFc S.holds (hG.post S.post) b.fFields x bj) ?_
 rintro cb cc cd bk S ⟨ac,rfl,ad⟩
 have ⟨k,z⟩:=U2 bk k z
 refine M ?_
 refine Ex ?_
 refine Ex<|Fb' am ?_
 refine W.storeSl (α:=Str) (i:=0) [(.slice none 0 0),ac,(.slice none 0 0),(str b.fReason),p,(str b.fBody),(int d),(int j)] S ad rfl rfl rfl lay45 (Nat.le_of_ble_eq_true rfl) rfl ?_
 intro ce S
 refine We<|Ws<|Wg<|Fb' am ?_
 refine Lo 0 S<|Fb' bb ?_
 refine Lo 3 S<|B h fun cf bn h=>W.call S rfl (zDo S.holds (hG.post S.post) bi.1 c.fFields ad z bn) ?_
 rintro aj cg ch bo S a0
 have ⟨ad,k⟩:=U2 bo ad k
 refine Fb' am ?_
 refine W.storeSl (α:=Str) (i:=0) [(.slice none 0 0),ac,aj,(str b.fReason),p,(str b.fBody),(int d),(int j)] S a0 rfl rfl rfl lay45 (Nat.le_of_ble_eq_true rfl) rfl ?_
 intro ci S
 refine We<|Ws<|Wg ?_
 refine WL.w (R.loadBN (i:=0) (vs:=[(.slice none 0 0),ac,aj,(str b.fReason),p,(str b.fBody),(int d),(int j)]) S am rfl lay92 rfl rfl) ?_
 refine W.store (i:=1) [(.slice none 0 0),ac,aj,(str b.fReason),p,(str b.fBody),(int d),(int j)] S a7 rfl rfl lay92 rfl (AllOne.all (l:=[(.slice none 0 0),ac,aj,(str b.fReason),p,(str b.fBody),(int d),(int j)]) (.cons rfl (.cons (Sl.oneC ad) (.cons (Sl.oneC a0) (.cons rfl (.cons (Sl.oneC k) (.cons rfl (.cons rfl (.cons rfl .nil))))))))) (Nat.le_of_ble_eq_true rfl) rfl ?_
 intro cj S
 refine A<|We ?_
 obtain rfl:=oi h
 refine WP.ret (Out.two rfl S (Res.cellB (i:=1) (cs:=[(.slice none 0 0),ac,aj,(str b.fReason),p,(str b.fBody),(int d),(int j)]) S a7 rfl lay92 rfl rfl) rfl ?_)
 exact ⟨_,_,_,_,_,rfl,Sl.nil,ad,a0,k,Sl.nil⟩
theorem zF9 {l:World} {c:Hp} (hw:Holds l c) (hG:Tryz.Gl l) (b:GEntry) (o:Str) {d:Value} {f:Value} {j:Value} {k:Value} (p:Sl c d b.fKeys) (q:Sl c f b.fVary) (t:Sl c j b.fSnapshot) (u:Sl c k b.fFields) {r:Bool} (h:zEf b o=some r) :
  Cb Tryz.prog 118 [(agg [d,f,j,(str b.fReason),k,(str b.fBody),(int b.fRequested),(int b.fReceived)]),(str o)] l c r:=by
 refine CM 10 Tryz.func118 hw fun S=>?_
 refine Ws<|Wg ?_
 refine W.box [d,f,j,(str b.fReason),k,(str b.fBody),(int b.fRequested),(int b.fReceived)] S rfl rfl ?_
 intro b1 w2 S
 refine A<|We<|Ws<|Wg ?_
 refine WL.w (R.loadBN (i:=0) (vs:=[d,f,j,(str b.fReason),k,(str b.fBody),(int b.fRequested),(int b.fReceived)]) S rfl rfl lay92 rfl rfl)<|M<|B h fun v x h=>W.call S rfl (zDr S.holds (hG.post S.post) b 2147483647 o p q t u x) ?_
 rintro v4 w5 H6 ah S ⟨u8,rfl,z⟩
 refine B h fun aj aa h=>W.call S rfl (zBV S.holds (hG.post S.post) v [71,69,84] z aa) ?_
 rintro ak al am an S rfl
 refine Nb<|A<|We ?_
 exact WP.ret (Rb h S)
theorem zDw {c:World} {b:Hp} (hw:Holds c b) (hG:Tryz.Gl c) (i:(List Str)) {l:Value} (p:Sl b l i) {r:Int} (h:zDZ i=some r) :
  Ci Tryz.prog 253 [l] c b r:=by
 refine CM 19 Tryz.func253 hw fun S=>?_
 refine Ws<|Wg<|A<|We<|Ws<|Wg<|A<|We<|Ws<|Ws<|Wg<|M ?_
 refine Nq p<|M<|We<|B h fun q t h=>WP.cut (fun f w=>∃ (o:Hp),f 3=(int 0)∧St c b w o []) ?_ ?_
 ·refine Wb ?_
  refine WP.loopM (zD0 i) (fun s f w=>match s with | _=>∃ (j:Hp),f 3=(int 0)∧f 7=(int (i.length:Int))∧f 8=(int 0)∧St c b w j []) () q (lfW t) ?_ ?_
  ·exact ⟨b,rfl,rfl,rfl,S⟩
  intro s f w hI y7 d u
  obtain ⟨j,v,x,z,S⟩:=hI
  refine Ws<|Wg<|La' z x<|We<|Ws ?_
  rcases condE d with ⟨k,d⟩ | ⟨k,d⟩
  ·refine CT k ?_
   cases d
  refine CF k<|Wx ?_
  obtain rfl:=oi d
  obtain rfl:=u
  exact ⟨j,v,S⟩
 rintro f w ⟨o,h6,S⟩
 refine Ws<|Wg<|M' h6<|A<|We ?_
 exact WP.ret (Ri h S)
theorem zAs {u:World} {c:Hp} (hw:Holds u c) (hG:Tryz.Gl u) (b:GEntry) {x:Value} {j:Value} {k:Value} {l:Value} (o:Sl c x b.fKeys) (p:Sl c j b.fVary) (q:Sl c k b.fSnapshot) (d:Sl c l b.fFields) {r:Int} (h:zFF b=some r) :
  Ci Tryz.prog 186 [(agg [x,j,k,(str b.fReason),l,(str b.fBody),(int b.fRequested),(int b.fReceived)])] u c r:=by
 refine CM 55 Tryz.func186 hw fun S=>?_
 refine Ws<|Wg ?_
 refine W.box [x,j,k,(str b.fReason),l,(str b.fBody),(int b.fRequested),(int b.fReceived)] S rfl rfl ?_
 intro b1 w2 S
 refine A<|We<|Ws<|WP.quiet S kr kr<|QFb ?_
 refine QB 0 (str b.fReason)<|QNs<|QLg<|QFb ?_
 refine QB 0 (str b.fBody)<|QNs<|QLg ?_
 refine QFb ?_
 refine QB 0 j<|B h fun r6 av h=>WQ.call (v:=int r6) rfl (fun w H' hq S=>zDw S.holds (hG.post S.post) b.fVary (p.up hq) av)<|QLg<|QFb ?_
 refine QB 0 k<|B h fun al aw h=>WQ.call (v:=int al) rfl (fun w H' hq S=>zDw S.holds (hG.post S.post) b.fSnapshot (q.up hq) aw)<|QLg<|QA<|WQ.nil ?_
 intro w3 H4 ay S
 have ⟨o,p,q,d⟩:=U4 ay o p q d
 refine Ws<|Ws<|Wg<|Fb ?_
 refine Lo 0 S<|Nq d<|M<|We<|B h fun ad az h=>WP.cut (fun f w=>∃ (z:Hp),f 1=(ptr b1 0)∧f 3=(int ad)∧Sl z x b.fKeys∧Sl z j b.fVary∧Sl z k b.fSnapshot∧Sl z l b.fFields∧St u c w z [.box b1 92 [x,j,k,(str b.fReason),l,(str b.fBody),(int b.fRequested),(int b.fReceived)]]) ?_ ?_
 ·refine Wb ?_
  refine WP.loopM (zFN b) (fun s f w=>match s with | (am,an)=>∃ (t:Hp),f 1=(ptr b1 0)∧f 3=(int am)∧f 25=l∧f 26=(int (b.fFields.length:Int))∧f 27=(int an)∧Sl t l b.fFields∧Sl t x b.fKeys∧Sl t j b.fVary∧Sl t k b.fSnapshot∧St u c w t [.box b1 92 [x,j,k,(str b.fReason),l,(str b.fBody),(int b.fRequested),(int b.fReceived)]]) (wr ((wr ((wr ((wr (100+(b.fReason.length:Int)))+(b.fBody.length:Int)))+r6))+al),0) ad (lfW az) ?_ ?_
  ·exact ⟨H4,rfl,rfl,rfl,rfl,rfl,d,o,p,q,S⟩
  intro s f w hI be aa a0
  obtain ⟨am,an⟩:=s
  obtain ⟨t,ao,ap,aq,ar,af,d,o,p,q,S⟩:=hI
  refine Ws<|Wg<|La' af ar<|We<|Ws ?_
  rcases condE aa with ⟨ah,aa⟩ | ⟨ah,aa⟩
  ·refine CT ah<|Wk<|Ws<|Wb<|Ws<|Wg<|B aa fun ae a1 aa=>W.idx (α:=GField) d aq af el22 a1 ?_
   rintro bf _ a2 rfl
   refine WL.w (R.loadHN (vs:=[(str ae.fName),(str ae.fValue)]) S rfl a2 lay68 rfl rfl) ?_
   refine W.alloc [(str []),(str [])] S zer68 ?_
   intro bg bh S
   refine W.store (i:=0) [(str ae.fName),(str ae.fValue)] S rfl rfl rfl lay68 rfl rfl (Nat.le_of_ble_eq_true rfl) rfl ?_
   intro bi S
   refine We<|Wg<|M' ap<|Fb ?_
   refine Lo 0 S<|Ns<|Lg<|Fb ?_
   refine Lo 0 S<|Ns<|Lg<|Lg ?_
   refine A<|We<|Wg<|Lg' af rfl<|M<|We ?_
   obtain rfl:=oi aa
   exact ⟨rfl,⟨t,ao,rfl,aq,ar,rfl,d,o,p,q,(S.pk [1])⟩⟩
  refine CF ah<|Wx ?_
  obtain rfl:=oi aa
  obtain rfl:=a0
  exact ⟨t,ao,ap,o,p,q,d,S⟩
 rintro f w ⟨z,a3,a4,o,p,q,d,S⟩
 refine Ws<|Ws<|Wg<|Fb' a3 ?_
 refine Lo 0 S<|Nq o<|M<|We<|B h fun a5 a6 h=>WP.cut (fun f w=>∃ (au:Hp),f 3=(int ad)∧St u c w au []) ?_ ?_
 ·refine Wb ?_
  refine WP.loopM (zFV b) (fun s f w=>match s with | _=>∃ (ai:Hp),f 3=(int ad)∧f 44=(int (b.fKeys.length:Int))∧f 45=(int 0)∧St u c w ai []) () a5 (lfW a6) ?_ ?_
  ·exact ⟨z,a4,rfl,rfl,(S.pk [])⟩
  intro s f w hI bj ab a7
  obtain ⟨ai,a8,a9,ba,S⟩:=hI
  refine Ws<|Wg<|La' ba a9<|We<|Ws ?_
  rcases condE ab with ⟨aj,ab⟩ | ⟨aj,ab⟩
  ·refine CT aj ?_
   cases ab
  refine CF aj<|Wx ?_
  obtain rfl:=oi ab
  obtain rfl:=a7
  exact ⟨ai,a8,S⟩
 rintro f w ⟨au,bb,S⟩
 refine Ws<|Wg<|M' bb<|A<|We ?_
 exact WP.ret (Ri h S)
theorem zAf {c:World} {b:Hp} (hw:Holds c b) (hG:Tryz.Gl c) (i:(List GAxis)) (q:(List GAxis)) (t:(GAxis→GAxis→Option Bool)) {u:Value} {x:Value} {kp_eq:FuncId} {cp_eq:List Value} (z:Sl b u i) (ad:Sl b x q) (Fp_eq:∀ {w:World} {H:Hp},b.le H→Holds w H→Tryz.Gl w→∀ (j:GAxis) (k:GAxis),∀ {aa ab:Value},Sl H aa j.fValues→Sl H ab k.fValues→∀ (rr:Bool),t j k=some rr→Con Tryz.prog kp_eq ([(agg [(str j.fName),aa]),(agg [(str k.fName),ab])]++cp_eq) w H (fun H' v=>v=(boo rr))) {r:Bool} (h:zAO i q t=some r) :
  Cb Tryz.prog 303 [u,x,(.func (.func kp_eq) #[] cp_eq.toArray)] c b r:=by
 refine CM 32 Tryz.func303 hw fun S=>?_
 refine Ws<|Wg<|A<|We<|Ws<|Ws<|Wg<|M<|Nq z<|M<|Nq ad<|Lf ?_
 refine We ?_
 rcases condE h with ⟨l,h⟩ | ⟨l,h⟩
 ·refine CT l ?_
  cases h
 refine CF l<|Wk<|Ws<|Ws<|Wg<|M<|Nq z<|M<|We<|B h fun r9 af h=>WP.cut (fun f w=>∃ (H5:Hp),St c b w H5 []) ?_ ?_
 ·refine Wb ?_
  refine WP.loopM (zAN i) (fun s f w=>match s with | _=>∃ (o:Hp),f 16=(int (i.length:Int))∧f 17=(int 0)∧St c b w o []) () r9 (lfW af) ?_ ?_
  ·exact ⟨b,rfl,rfl,S⟩
  intro s f w hI y6 d ah
  obtain ⟨o,h3,h4,S⟩:=hI
  refine Ws<|Wg<|La' h4 h3<|We<|Ws ?_
  rcases condE d with ⟨p,d⟩ | ⟨p,d⟩
  ·refine CT p ?_
   cases d
  refine CF p<|Wx ?_
  obtain rfl:=oi d
  obtain rfl:=ah
  exact ⟨o,S⟩
 rintro f w ⟨H5,S⟩
 refine Ws<|Wg<|A<|We ?_
 exact WP.ret (Rb h S)
theorem zFd {c:World} {b:Hp} (hw:Holds c b) (hG:Tryz.Gl c) (d:GAxis) (f:GAxis) {i:Value} {j:Value} (k:Sl b i d.fValues) (l:Sl b j f.fValues) {r:Bool} (h:zCA d f=some r) :
  Cb Tryz.prog 304 [(agg [(str d.fName),i]),(agg [(str f.fName),j])] c b r:=by
 refine CM 17 Tryz.func304 hw fun S=>?_
 cases h
theorem zF8 {c:World} {b:Hp} (hw:Holds c b) (hG:Tryz.Gl c) (d:(List GAxis)) (f:(List GAxis)) {i:Value} {j:Value} (k:Sl b i d) (l:Sl b j f) {r:Bool} (h:zEW d f=some r) :
  Cb Tryz.prog 264 [i,j] c b r:=by
 refine CM 8 Tryz.func264 hw fun S=>?_
 refine Ws<|Wg<|A<|We<|Ws<|Wg<|M<|M<|B h fun v o h=>W.call S rfl (zAf S.holds (hG.post S.post) d f zCA k l (fun hle hw hG p q=>fun t u r h=>zFd hw hG p q t u h) o) ?_
 rintro x z H4 ab S rfl
 refine A<|We ?_
 exact WP.ret (Rb h S)
theorem zGt {f:World} {b:Hp} (hw:Holds f b) (hG:Tryz.Gl f) (c:GEntry) (i:(List GAxis)) (d:GEntry) {j:Value} {k:Value} {l:Value} {o:Value} {p:Value} {q:Value} {t:Value} {u:Value} {v:Value} {x:Addr} {z:Addr} (aa:Sl b j c.fKeys) (ab:Sl b k c.fVary) (ac:Sl b l c.fSnapshot) (ad:Sl b o c.fFields) (ae:At b x [p]) (af:Sl b p i) (ah:At b z [q,t,u,(str d.fReason),v,(str d.fBody),(int d.fRequested),(int d.fReceived)]) (ai:Sl b q d.fKeys) (aj:Sl b t d.fVary) (ak:Sl b u d.fSnapshot) (al:Sl b v d.fFields) {r:Bool} (h:zET c i d=some r) :
  Cb Tryz.prog 266 [(agg [j,k,l,(str c.fReason),o,(str c.fBody),(int c.fRequested),(int c.fReceived)]),(.pointer (some x)),(.pointer (some z))] f b r:=by
 refine CM 9 Tryz.func266 hw fun S=>?_
 cases h
theorem zBO {d:World} {c:Hp} (hw:Holds d c) (hG:Tryz.Gl d) (j:(List GEntry)) (o:(GEntry→Option Bool)) {p:Value} {kp_f:FuncId} {cp_f:List Value} (aa:Sl c p j) (Fp_f:∀ {w:World} {H:Hp},c.le H→Holds w H→Tryz.Gl w→∀ (b:GEntry),∀ {q t u x:Value},Sl H q b.fKeys→Sl H t b.fVary→Sl H u b.fSnapshot→Sl H x b.fFields→∀ (rr:Bool),o b=some rr→Con Tryz.prog kp_f ([(agg [q,t,u,(str b.fReason),x,(str b.fBody),(int b.fRequested),(int b.fReceived)])]++cp_f) w H (fun H' v=>v=(boo rr))) {r:Int} (h:zAh j o=some r) :
  Ci Tryz.prog 305 [p,(.func (.func kp_f) #[] cp_f.toArray)] d c r:=by
 refine CM 19 Tryz.func305 hw fun S=>?_
 refine Ws<|Wg<|A<|We<|Ws<|Ws<|Wg<|M<|Nq aa<|M<|We<|B h fun r8 ac h=>WP.cut (fun f w=>∃ (z:Hp),St d c w z []) ?_ ?_
 ·refine Wb ?_
  refine WP.loopM (zAc j) (fun s f w=>match s with | _=>∃ (k:Hp),f 7=(int (j.length:Int))∧f 8=(int 0)∧St d c w k []) () r8 (lfW ac) ?_ ?_
  ·exact ⟨c,rfl,rfl,S⟩
  intro s f w hI y5 i ad
  obtain ⟨k,h2,h3,S⟩:=hI
  refine Ws<|Wg<|La' h3 h2<|We<|Ws ?_
  rcases condE i with ⟨l,i⟩ | ⟨l,i⟩
  ·refine CT l ?_
   cases i
  refine CF l<|Wx ?_
  obtain rfl:=oi i
  obtain rfl:=ad
  exact ⟨k,S⟩
 rintro f w ⟨z,S⟩
 refine Ws<|Wg<|A<|We ?_
 exact WP.ret (Ri h S)
theorem zBI {w0 ws:World} {H0 Hs:Hp} {L2:List Ent} (hG:Tryz.Gl w0) (b:(List GEntry)) (ad:(GEntry→Option Bool)) {v:Value} {en:Ent} {kd:FuncId} {cd:List Value} (S:St w0 H0 ws Hs (en :: L2)) (RM:MR (α:=GEntry) Hs en 92 v b)
  (F:∀ {w:World} {H:Hp},Hs.le H→Holds w H→Tryz.Gl w→∀ (d:GEntry),∀ {al am an ao:Value},Sl H al d.fKeys→Sl H am d.fVary→Sl H an d.fSnapshot→Sl H ao d.fFields→∀ (rr:Bool),ad d=some rr→Con Tryz.prog kd ([(agg [al,am,an,(str d.fReason),ao,(str d.fBody),(int d.fRequested),(int d.fReceived)])]++cd) w H (fun H' v=>v=(boo rr)))
  {r:List GEntry} (h:zAQ b ad=some r) :
  ConS Tryz.prog 265 [v,(.func (.func kd) #[] cd.toArray)] w0 H0 ws Hs L2 (fun H' v' L'=>∃ en',L'=[en']∧MR (α:=GEntry) H' en' 92 v' r):=by
 unfold zAQ at h
 refine ConS.mk (N:=42) Tryz.func265 rfl rfl kr rfl<|Ws<|Wg<|A<|We<|Ws<|Wg<|M<|M<|B h fun i hi h=>?_
 replace h:=zHr h
 obtain ⟨H1,ar,au,R1⟩:=S.view_ (i:=0) rfl RM
 refine W.callF S rfl (zBO au (hG.post S.post) b ad R1 (fun hle=>F (Hp.le.trans ar hle)) hi) ?_
 rintro _ w1 H2 rfl S
 refine A<|We<|Ws<|Ws<|Wg<|M<|Le<|We ?_
 unfold delR at h
 rcases condE h with ⟨hc,h⟩ | ⟨hc,h⟩
 ·refine CT hc<|Ws<|Wg<|M<|A<|We ?_
  obtain rfl:=oi h
  refine WP.ret (OutS.one (L':=[en]) rfl lr S rfl ?_)
  exact ⟨en,rfl,RM⟩
 refine CF hc<|Wk ?_
 rcases condE h with ⟨hb,h⟩ | ⟨hb,h⟩
 case inr=>cases h
 have hb:=of_decide_eq_true hb
 obtain ⟨c,rfl⟩:=Int.eq_ofNat_of_zero_le hb.1
 have ap:c<b.length:=by omega
 rcases RM with ⟨_,hnil,_⟩ | ⟨g,cap,cur0,cs0,rfl,rfl,hnc,hcm,hcs,htk,hC⟩
 ·subst hnil; exact absurd ap (Nat.not_lt_zero _)
 have D0:DelI Hs b cur0 (b.take c) (c+1):=DelI.start htk hC ap
 have hmax:b.length≤9223372036854775807:=by simp only [maxLen] at hcm; omega
 have ax:(b.take c).length=c:=by rw [List.length_take]; omega
 refine Ws<|Ws<|Wg<|M<|Lg<|A<|We ?_
 refine WP.cut (fun f w=>∃ (m:Nat) (cur:Array Value),f 0=.slice (some ⟨g,0,none⟩) b.length cap∧f 5=int r.length∧b.length≤m∧cur.size=cap*8∧DelI Hs b cur r m∧St w0 H0 w Hs (.obj g (.cells cur 92 (0,0)) :: L2)) ?_ ?_
 ·refine Wb ?_
  refine WP.loopM (delL b ad) (fun s f w=>∃ (m:Nat) (cur:Array Value),s.2=m∧f 0=.slice (some ⟨g,0,none⟩) b.length cap∧f 1=.func (.func kd) #[] cd.toArray∧f 5=int s.1.length∧f 6=int m∧cur.size=cap*8∧DelI Hs b cur s.1 m∧St w0 H0 w Hs (.obj g (.cells cur 92 (0,0)) :: L2)) _ _ h ?_ ?_
  ·refine ⟨c+1,cur0,rfl,rfl,rfl,?_,?_,hcs,D0,S⟩
   ·show int c=int ((b.take (Int.toNat c)).length:Nat)
    rw [Int.toNat_natCast,ax]
   show int (wr ((c:Int)+1))=int ((c+1:Nat):Int)
   rw [wr_eq ⟨by omega,by omega⟩]; rfl
  rintro ⟨K,mi⟩ f w ⟨m,cur,rfl,j,h1,k,h6,hsz,D,S⟩ y hy hyr
  unfold delL at hy
  refine Ws<|Ws<|Wg<|M' h6<|M' j<|Nv<|La<|We ?_
  rcases condE hy with ⟨hcm,hy⟩ | ⟨hcm,hy⟩
  ·refine CT hcm<|Wk ?_
   have hmn:m<b.length:=by have:=of_decide_eq_true hcm; omega
   refine B hy fun x hx hy=>?_
   obtain rfl:b[m]=x:=by
    unfold xnth at hx
    rw [if_pos (by omega)] at hx
    have:=(List.getElem?_eq_some_iff.1 hx).2
    exact this
   obtain ⟨_,aq,_,p,q,t,u,rfl,q1,q2,q3,q4⟩:=D.look hmn
   refine Ws<|Wb<|Ws<|Wg<|M' j<|M' h6 ?_
   refine WL.w (R.idxN (m:=(m:Int)) rfl rfl el60 ⟨by omega,by omega⟩) ?_
   refine WL.w (R.loadO (i:=0) (o:=m*8) (vs:=[p,q,t,(str b[m].fReason),u,(str b[m].fBody),(int b[m].fRequested),(int b[m].fReceived)]) S rfl rfl lay92 rfl aq) ?_
   refine W.alloc _ S zer92 ?_
   intro b7 w8 S
   refine W.store (i:=0) [p,q,t,(str b[m].fReason),u,(str b[m].fBody),(int b[m].fRequested),(int b[m].fReceived)] S rfl rfl rfl lay92 rfl (AllOne.all (l:=[p,q,t,(str b[m].fReason),u,(str b[m].fBody),(int b[m].fRequested),(int b[m].fReceived)]) (.cons (Sl.oneC q1) (.cons (Sl.oneC q2) (.cons (Sl.oneC q3) (.cons rfl (.cons (Sl.oneC q4) (.cons rfl (.cons rfl (.cons rfl .nil))))))))) (Nat.le_of_ble_eq_true rfl) rfl ?_
   intro w9 S
   refine We<|Ws<|Wg<|M' h1 ?_
   refine WL.w (R.loadBN (i:=0) (vs:=[p,q,t,(str b[m].fReason),u,(str b[m].fBody),(int b[m].fRequested),(int b[m].fReceived)]) S rfl rfl lay92 rfl rfl)<|B hy fun bb hbb hy=>?_
   refine W.callvF S rfl rfl (F lr S.holds (hG.post S.post) b[m] q1 q2 q3 q4 bb hbb) ?_
   rintro _ a7 a8 rfl S
   refine No<|We ?_
   cases bb with
   | true =>
    refine CF rfl<|Wk<|Wg<|M' h6<|Lg<|A<|We ?_
    obtain rfl:=oi hy
    refine ⟨rfl,m+1,cur,rfl,j,h1,k,?_,hsz,D.skip hmn,S.drop _ (.cons _ (.refl _))⟩
    show int (wr ((m:Int)+1))=int ((m+1:Nat):Int)
    rw [wr_eq ⟨by omega,by omega⟩]; rfl
   | false =>
    refine CT rfl<|Ws<|Wg<|M' j<|M' k ?_
    refine WL.w (R.loadBN (i:=0) (vs:=[p,q,t,(str b[m].fReason),u,(str b[m].fBody),(int b[m].fRequested),(int b[m].fReceived)]) S rfl rfl lay92 rfl rfl) ?_
    have hKm:K.length<m:=D.1
    refine WL.w (R.idxN (m:=(K.length:Int)) rfl rfl el60 ⟨by omega,by omega⟩) ?_
    refine W.storeO (i:=1) (o:=K.length*8) S rfl rfl rfl lay92 rfl (AllOne.all (l:=[p,q,t,(str b[m].fReason),u,(str b[m].fBody),(int b[m].fRequested),(int b[m].fReceived)]) (.cons (Sl.oneC q1) (.cons (Sl.oneC q2) (.cons (Sl.oneC q3) (.cons rfl (.cons (Sl.oneC q4) (.cons rfl (.cons rfl (.cons rfl .nil))))))))) (by omega) ?_
    intro a9 cur' hcur S
    have hcur:cur'.toList=cur.toList.take (K.length*8)++[p,q,t,(str b[m].fReason),u,(str b[m].fBody),(int b[m].fRequested),(int b[m].fReceived)]++cur.toList.drop (K.length*8+8):=hcur
    have D2:=D.keep hmn aq hcur
    refine We<|Wg<|M' k<|Lg<|A<|We<|Wg<|M' h6<|Lg<|A<|We ?_
    obtain rfl:=oi hy
    refine ⟨rfl,m+1,cur',rfl,j,h1,?_,?_,?_,D2,S.drop _ (.cons _ (.refl _))⟩
    ·show int (wr ((K.length:Int)+1))=int (((K++[b[m]]).length:Nat):Int)
     rw [wr_eq ⟨by omega,by omega⟩,List.length_append]; rfl
    ·show int (wr ((m:Int)+1))=int ((m+1:Nat):Int)
     rw [wr_eq ⟨by omega,by omega⟩]; rfl
    rw [← Array.length_toList,hcur]
    simp only [List.length_append,List.length_take,List.length_drop,List.length_cons,List.length_nil]
    have hcl:cur.toList.length=cap*8:=hsz
    rw [hcl]
    omega
  refine CF hcm<|Wx ?_
  obtain rfl:=oi hy
  obtain rfl:=hyr
  have hcm:=of_decide_eq_false hcm
  exact ⟨m,cur,j,k,by omega,hsz,D,S⟩
 rintro f w ⟨m,cur,j,k,hm,hsz,D,S⟩
 have hKm:=D.1
 have hmp:=D.2.1
 obtain ⟨kc,hkc,hkC⟩:=D.front
 refine Ws<|Wg<|M' j<|M' k ?_
 refine WL.w (R.sliceLo rfl rfl el60 (by omega) (by omega))<|W.clearO (α:=GEntry) (i:=0) S el60 (fun z hz=>by rw [zer92] at hz; obtain rfl:=oi hz; rfl) rfl rfl (by show r.length*8+(b.length - r.length)*8≤cur.size; omega) ?_
 intro ba cur2 az a0 S
 refine We<|Ws<|Wg<|M' j<|M' k ?_
 refine WL.w (R.sliceHi rfl rfl el60 (by omega))<|A<|We ?_
 refine WP.ret (OutS.one (L':=[.obj g (.cells cur2 92 (0,0))]) rfl lr S rfl ?_)
 exact ⟨_,rfl,.inr ⟨g,cap,cur2,kc,rfl,rfl,by omega,hcm,by rw [az]; exact hsz,a0.trans hkc,hkC⟩⟩
end Go.Proofs
