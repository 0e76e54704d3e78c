/- A part of the proof of laws of the seat: written by program over the translation. -/
import Derived.Test.YtljjaiijlaeoeaaGreatDoorEng38
import Derived.Test.YtljjaiijlaeoeaaGreatDoorEng36
import Derived.Test.YtljjaiijlaeoeaaGreatDoorGenP12
namespace Go.Proofs
set_option maxHeartbeats 4000000
set_option maxRecDepth 10000
open Go.Eng Go.Eng.Pure
set_option linter.unusedVariables false
theorem zOP {i:World} {j:Hp} (hw:Holds i j) (hG:Tryz.Gl i) (b:Str) {r:Bool} (h:zOB b=some r) :
  Con Tryz.prog 191 [(str b)] i j (fun H' v=>v=(boo r)):=by
 refine Con.mk (N:=17) Tryz.func191 rfl rfl kr rfl ?_
 have S:=St.start hw
 refine Ws<|Wg<|A<|We<|Ws<|Wg<|M<|Nb<|M ?_
 refine WL.grp 3 [6,7] 8 (boo ((b !=[71,69,84])&&(b !=[72,69,65,68]))) ?_ ?_
 ·rcases boolE (b !=[71,69,84]) with c | c
  ·refine Gy c<|M<|Gy c<|Nb<|Pt c ?_
   exact We ⟨(andT c),ag,rfl⟩
  refine Gn c<|Gn c<|Pf c ?_
  exact We ⟨(andF c),ag,rfl⟩
 intro us
 refine M ?_
 refine WL.grp 3 [10,11] 12 (boo (((b !=[71,69,84])&&(b !=[72,69,65,68]))&&(b !=[79,80,84,73,79,78,83]))) ?_ ?_
 ·rcases boolE ((b !=[71,69,84])&&(b !=[72,69,65,68])) with d | d
  ·refine Gy d<|M<|Gy d<|Nb<|Pt d ?_
   exact We ⟨(andT d),ag,rfl⟩
  refine Gn d<|Gn d<|Pf d ?_
  exact We ⟨(andF d),ag,rfl⟩
 intro us
 refine M ?_
 refine WL.grp 3 [14,15] 16 (boo ((((b !=[71,69,84])&&(b !=[72,69,65,68]))&&(b !=[79,80,84,73,79,78,83]))&&(b !=[84,82,65,67,69]))) ?_ ?_
 ·rcases boolE (((b !=[71,69,84])&&(b !=[72,69,65,68]))&&(b !=[79,80,84,73,79,78,83])) with f | f
  ·refine Gy f<|M<|Gy f<|Nb<|Pt f ?_
   exact We ⟨(andT f),ag,rfl⟩
  refine Gn f<|Gn f<|Pf f ?_
  exact We ⟨(andF f),ag,rfl⟩
 intro us
 refine A<|We ?_
 obtain rfl:=oi h
 refine WP.ret (Out.one rfl S rfl ?_)
 exact rfl
theorem zOG {i:World} {k:Hp} (hw:Holds i k) (hG:Tryz.Gl i) (j:Str) (d:Int) {r:Bool} (h:zN1 j d=some r) :
  Con Tryz.prog 124 [(str j),(int d)] i k (fun H' v=>v=(boo r)):=by
 refine Con.mk (N:=15) Tryz.func124 rfl rfl kr rfl ?_
 have S:=St.start hw
 refine Ws<|Wg<|A<|We<|Ws<|Wg<|M<|B h fun f l h=>W.call S rfl (zOP S.holds (hG.post S.post) j l) ?_
 rintro o p q t S rfl
 refine M ?_
 refine WL.grp 3 [8,9] 10 (boo (f&&(decide (200≤d)))) ?_ ?_
 ·rcases boolE f with b | b
  ·refine Gy b<|M<|Gy b<|Ld<|Pt b ?_
   exact We ⟨(andT b),ag,rfl⟩
  refine Gn b<|Gn b<|Pf b ?_
  exact We ⟨(andF b),ag,rfl⟩
 intro us
 refine M ?_
 refine WL.grp 3 [12,13] 14 (boo ((f&&(decide (200≤d)))&&(decide (d≤399)))) ?_ ?_
 ·rcases boolE (f&&(decide (200≤d))) with c | c
  ·refine Gy c<|M<|Gy c<|Lb<|Pt c ?_
   exact We ⟨(andT c),ag,rfl⟩
  refine Gn c<|Gn c<|Pf c ?_
  exact We ⟨(andF c),ag,rfl⟩
 intro us
 refine A<|We ?_
 obtain rfl:=oi h
 refine WP.ret (Out.one rfl S rfl ?_)
 exact rfl
theorem zID {b:World} {c:Hp} (hw:Holds b c) (hG:Tryz.Gl b) (j:(List GField)) {p:Value} (q:Sl (α:=GField) c p j) {r:((List Str)×Bool)} (h:zFL j=some r) :
  Con Tryz.prog 194 [p] b c (fun H' v=>∃ t:Value,v=(.tuple ⟨[t,(boo r.2)]⟩)∧Sl (α:=Str) H' t r.1):=by
 refine Con.mk (N:=36) Tryz.func194 rfl rfl kr rfl ?_
 have S:=St.start hw
 have ao:=q
 refine Ws<|Wg<|A<|A<|We<|Ws<|Wg<|M<|B h fun u ab h=>W.call S rfl (zF6 S.holds (hG.post S.post) j [86,97,114,121] q ab) ?_
 rintro v2 w3 H4 ar S x
 refine A<|We<|Ws<|Ws<|Wg<|M<|Nq x<|Ld<|We ?_
 rcases condE h with ⟨k,h⟩ | ⟨k,h⟩
 ·refine CT k ?_
  cases h
 refine CF k<|Wk<|Ws<|Wg<|A<|We<|Ws<|Ws<|Wg<|M<|Nq x<|M ?_
 refine We<|B h fun ad ae h=>WP.cut (fun f w=>∃ (z:Hp),f 5=(.slice none 0 0)∧St b c w z []) ?_ ?_
 ·refine Wb ?_
  refine WP.loopM (zGN u) (fun s f w=>match s with | _=>∃ (l:Hp),f 5=(.slice none 0 0)∧f 14=(int (u.length:Int))∧f 15=(int 0)∧St b c w l []) () ad (lfW ae) ?_ ?_
  ·exact ⟨H4,rfl,rfl,rfl,S⟩
  intro s f w hI au d af
  obtain ⟨l,h9,ai,aj,S⟩:=hI
  refine Ws<|Wg<|La' aj ai<|We<|Ws ?_
  rcases condE d with ⟨o,d⟩ | ⟨o,d⟩
  ·refine CT o ?_
   cases d
  refine CF o<|Wx ?_
  obtain rfl:=oi d
  obtain rfl:=af
  exact ⟨l,h9,S⟩
 rintro f w ⟨z,aa,S⟩
 refine Ws<|Wg<|M' aa ?_
 have S:=S.addNil 9 1
 refine B h fun av ak h=>W.sortRow (i:=0) zHl hw S rfl rfl Sl.nil ak ?_
 intro aw ax ay al S
 refine We<|Ws<|Wg<|M' aa<|B h fun az am h=>W.compactRow (i:=0) zG5 hw S rfl rfl al am ?_
 intro a0 a1 a2 a3 an S
 refine A<|A<|We ?_
 obtain rfl:=oi h
 refine WP.ret (Out.two rfl S rfl rfl ?_)
 exact ⟨_,rfl,an⟩
theorem zHd {w0:World} {H0:Hp} (hw:Holds w0 H0) (hG:Tryz.Gl w0) (c:GRequest) (d:GResponse) {ae:Value} {af:Value} (j:Sl (α:=GField) H0 ae c.fFields) (f:Sl (α:=GField) H0 af d.fFields) {r:Bool} (h:zCZ c d=some r) :
  Con Tryz.prog 126 [(agg [(str c.fMethod),(str c.fTarget),(int c.fMinor),ae,(str c.fBody)]),(agg [(int d.fMinor),(int d.fStatus),(str d.fReason),af,(str d.fBody)])] w0 H0 (fun H' v=>v=(boo r)):=by
 refine Con.mk (N:=69) Tryz.func126 rfl rfl kr rfl ?_
 have S:=St.start hw
 refine Ws<|Wg ?_
 refine W.box [(str c.fMethod),(str c.fTarget),(int c.fMinor),ae,(str c.fBody)] S rfl rfl ?_
 intro b1 w2 S
 refine W.box [(int d.fMinor),(int d.fStatus),(str d.fReason),af,(str d.fBody)] S rfl rfl ?_
 intro b3 w4 S
 refine A<|We<|Ws<|Ws<|Wg<|Fb ?_
 refine Lo 1 S<|Nb<|M ?_
 refine WL.grp 4 [12,13,14] 15 (boo ((c.fMethod !=[71,69,84])||(d.fStatus !=200))) ?_ ?_
 ·rcases boolE (c.fMethod !=[71,69,84]) with o | o
  ·refine Gn o<|Gn o<|Gn o<|Pt o ?_
   exact We ⟨(orT o),ag,rfl⟩
  refine Gy o<|Fb<|Gy o ?_
  refine Lo 0 S<|Gy o<|Lf<|Pf o ?_
  exact We ⟨(orF o),ag,rfl⟩
 intro us
 refine We ?_
 rcases condE h with ⟨ah,h⟩ | ⟨ah,h⟩
 ·refine CT ah ?_
  cases h
 refine CF ah<|Wk<|Ws<|Wg<|Fb ?_
 refine Lo 0 S<|B h fun b ay h=>W.call S rfl (zAw S.holds (hG.post S.post) d.fFields f ay) ?_
 rintro v9 bc ap aq S rfl
 have j:=Sl.mono j aq
 have f:=Sl.mono f aq
 refine W.alloc [(boo false),(boo false),(boo false),(boo false),(boo false),(boo false),(boo false),(int 0),(int 0),(int 0),(int 0)] S zJ5 ?_
 intro ar bd S
 refine W.store (i:=0) [(boo b.fNoStore),(boo b.fNoCache),(boo b.fMustRevalidate),(boo b.fProxyRevalidate),(boo b.fPrivate),(boo b.fPublic),(boo b.fOnlyIfCached),(int b.fMaxAge),(int b.fSMaxAge),(int b.fMinFresh),(int b.fMaxStale)] S rfl rfl rfl zHY rfl rfl (Nat.le_of_ble_eq_true rfl) rfl ?_
 intro be S
 refine We<|Ws<|Ws<|Wg<|Fb ?_
 refine Lo 0 S<|M ?_
 refine WL.grp 3 [22,23] 24 (boo (b.fNoStore||b.fPrivate)) ?_ ?_
 ·rcases boolE b.fNoStore with x | x
  ·refine Gn x<|Gn x<|Pt x ?_
   exact We ⟨(orT x),ag,rfl⟩
  refine Gy x<|Fb<|Gy x ?_
  refine Lo 0 S<|Pf x ?_
  exact We ⟨(orF x),ag,rfl⟩
 intro us
 refine M<|B h fun az z h=>WL.grpw 5 [26,27,28,29] 30 (boo az) (fun w=>∃ H':Hp,ap.le H'∧St w0 H0 w H' [.box ar 164 [(boo b.fNoStore),(boo b.fNoCache),(boo b.fMustRevalidate),(boo b.fProxyRevalidate),(boo b.fPrivate),(boo b.fPublic),(boo b.fOnlyIfCached),(int b.fMaxAge),(int b.fSMaxAge),(int b.fMinFresh),(int b.fMaxStale)],.box b3 24 [(int d.fMinor),(int d.fStatus),(str d.fReason),af,(str d.fBody)],.box b1 94 [(str c.fMethod),(str c.fTarget),(int c.fMinor),ae,(str c.fBody)]]) ?_ ?_
 ·rcases boolE (b.fNoStore||b.fPrivate) with k | k
  ·replace z:=condT z k
   refine Gn k<|Gn k<|Gn k<|Gn k<|Pt k ?_
   exact We ⟨(congrArg boo (oi z)),ag,⟨ap,(Hp.le.refl _),S⟩⟩
  replace z:=condF z k
  refine Gy k<|Fb<|Gy k ?_
  refine Lo 2 S<|Gy k<|B z fun l a0 z=>W.call S rfl (zB3 S.holds (hG.post S.post) c.fFields j a0) ?_
  rintro bf bg a1 ai S rfl
  have j:=Sl.mono j ai
  have f:=Sl.mono f ai
  refine Gy k ?_
  refine WL.w (v:=boo l.fNoStore) (R.fieldV (cs:=[(boo l.fNoStore),(boo l.fNoCache),(boo l.fMustRevalidate),(boo l.fProxyRevalidate),(boo l.fPrivate),(boo l.fPublic),(boo l.fOnlyIfCached),(int l.fMaxAge),(int l.fSMaxAge),(int l.fMinFresh),(int l.fMaxStale)]) rfl zMB lay4 rfl)<|Pf k ?_
  exact We ⟨(congrArg boo (oi z)),ag,⟨a1,ai,S⟩⟩
 intro us bh ⟨bi,au,S⟩
 have j:=Sl.mono j au
 have f:=Sl.mono f au
 refine We ?_
 rcases condE h with ⟨aj,h⟩ | ⟨aj,h⟩
 ·refine CT aj ?_
  cases h
 refine CF aj<|Wk<|Ws<|Ws<|Wg<|Fb ?_
 refine Lo 1 S<|B h fun bj a2 h=>W.call S rfl (zID S.holds (hG.post S.post) d.fFields f a2) ?_
 rintro bk bn bo av S ⟨bp,rfl,bq⟩
 have j:=Sl.mono j av
 have f:=Sl.mono f av
 refine M ?_
 refine Ex ?_
 refine Ex<|A<|A<|We<|Ws<|Wg<|M<|No<|We ?_
 rcases condE h with ⟨ak,h⟩ | ⟨ak,h⟩
 ·refine CT ak ?_
  cases h
 refine CF ak<|Wk<|Ws<|Ws<|Wg<|Fb ?_
 refine Lo 2 S<|B h fun br a3 h=>W.call S rfl (zNS S.holds (hG.post S.post) c.fFields [82,97,110,103,101] j a3) ?_
 rintro bs bt bu aw S rfl
 have j:=Sl.mono j aw
 have f:=Sl.mono f aw
 refine We ?_
 rcases condE h with ⟨al,h⟩ | ⟨al,h⟩
 ·refine CT al ?_
  cases h
 refine CF al<|Wk<|Ws<|Ws<|Wg<|Fb ?_
 refine Lo 2 S<|B h fun ab a4 h=>W.call S rfl (zNS S.holds (hG.post S.post) c.fFields [65,117,116,104,111,114,105,122,97,116,105,111,110] j a4) ?_
 rintro bv bw bx a5 S rfl
 have f:=Sl.mono f a5
 refine M ?_
 refine WL.grp 4 [46,47,48] 49 (boo (ab&&(!b.fMustRevalidate))) ?_ ?_
 ·rcases boolE ab with p | p
  ·refine Gy p<|Fb<|Gy p ?_
   refine Lo 0 S<|Gy p<|No<|Pt p ?_
   exact We ⟨(andT p),ag,rfl⟩
  refine Gn p<|Gn p<|Gn p<|Pf p ?_
  exact We ⟨(andF p),ag,rfl⟩
 intro us
 refine M ?_
 refine WL.grp 4 [51,52,53] 54 (boo ((ab&&(!b.fMustRevalidate))&&(!b.fPublic))) ?_ ?_
 ·rcases boolE (ab&&(!b.fMustRevalidate)) with q | q
  ·refine Gy q<|Fb<|Gy q ?_
   refine Lo 0 S<|Gy q<|No<|Pt q ?_
   exact We ⟨(andT q),ag,rfl⟩
  refine Gn q<|Gn q<|Gn q<|Pf q ?_
  exact We ⟨(andF q),ag,rfl⟩
 intro us
 refine M ?_
 refine WL.grp 4 [56,57,58] 59 (boo (((ab&&(!b.fMustRevalidate))&&(!b.fPublic))&&(b.fSMaxAge==(-1)))) ?_ ?_
 ·rcases boolE ((ab&&(!b.fMustRevalidate))&&(!b.fPublic)) with t | t
  ·refine Gy t<|Fb<|Gy t ?_
   refine Lo 0 S<|Gy t<|Le<|Pt t ?_
   exact We ⟨(andT t),ag,rfl⟩
  refine Gn t<|Gn t<|Gn t<|Pf t ?_
  exact We ⟨(andF t),ag,rfl⟩
 intro us
 refine We ?_
 rcases condE h with ⟨am,h⟩ | ⟨am,h⟩
 ·refine CT am ?_
  cases h
 refine CF am<|Wk<|Ws<|Wg<|Fb ?_
 refine Lo 1 S<|B h fun a6 a7 h=>W.call S rfl (zEg S.holds (hG.post S.post) d.fFields f a7) ?_
 rintro bz b0 ax b2 S rfl
 refine Lc<|M<|B h fun a8 ac h=>WL.grpw 4 [65,66,67] 68 (boo a8) (fun w=>∃ H':Hp,ax.le H'∧St w0 H0 w H' [.box ar 164 [(boo b.fNoStore),(boo b.fNoCache),(boo b.fMustRevalidate),(boo b.fProxyRevalidate),(boo b.fPrivate),(boo b.fPublic),(boo b.fOnlyIfCached),(int b.fMaxAge),(int b.fSMaxAge),(int b.fMinFresh),(int b.fMaxStale)],.box b3 24 [(int d.fMinor),(int d.fStatus),(str d.fReason),af,(str d.fBody)],.box b1 94 [(str c.fMethod),(str c.fTarget),(int c.fMinor),ae,(str c.fBody)]]) ?_ ?_
 ·rcases boolE (decide (0<a6)) with u | u
  ·replace ac:=condT ac u
   refine Gn u<|Gn u<|Gn u<|Pt u ?_
   exact We ⟨(congrArg boo (oi ac)),ag,⟨ax,(Hp.le.refl _),S⟩⟩
  replace ac:=condF ac u
  refine Gy u<|Fb<|Gy u ?_
  refine Lo 1 S<|Gy u ?_
  cases ac
 intro us b4 ⟨b5,b6,S⟩
 refine A<|We ?_
 obtain rfl:=oi h
 refine WP.ret (Out.one rfl S rfl ?_)
 exact rfl
theorem zI2 {b:World} {c:Hp} (hw:Holds b c) (hG:Tryz.Gl b) (d:(List GField)) {i:Value} (k:Sl (α:=GField) c i d) {r:((List GAxis)×Int)} (h:zD6 d=some r) :
  Con Tryz.prog 195 [i] b c (fun H' v=>∃ j:Value,v=(.tuple ⟨[j,(int r.2)]⟩)∧Sl (α:=GAxis) H' j r.1):=by
 refine Con.mk (N:=52) Tryz.func195 rfl rfl kr rfl ?_
 have S:=St.start hw
 refine Ws<|Wg<|A<|A<|We<|Ws<|Ws<|Wg<|M<|B h fun o l h=>W.call S rfl (zNS S.holds (hG.post S.post) d [86,97,114,105,97,110,116,115] k l) ?_
 rintro p q t u S rfl
 refine No<|We ?_
 rcases condE h with ⟨f,h⟩ | ⟨f,h⟩
 ·refine CT f<|Ws<|Wg<|A<|A<|We ?_
  obtain rfl:=oi h
  refine WP.ret (Out.two rfl S rfl rfl ?_)
  exact ⟨_,rfl,Sl.nil⟩
 refine CF f ?_
 cases h
theorem zEE {d:World} {f:Hp} (hw:Holds d f) (hG:Tryz.Gl d) (c:(List GAxis)) {j:Value} (k:Sl (α:=GAxis) f j c) {r:Bool} (h:zDz c=some r) :
  Con Tryz.prog 198 [j] d f (fun H' v=>v=(boo r)):=by
 refine Con.mk (N:=54) Tryz.func198 rfl rfl kr rfl ?_
 have S:=St.start hw
 refine Ws<|Wg<|A<|We<|Ws<|Ws<|Wg<|M<|Nq k<|La<|M ?_
 refine WL.grp 4 [11,12,13] 14 (boo ((decide ((c.length:Int)<1))||(decide (4<(c.length:Int))))) ?_ ?_
 ·rcases boolE (decide ((c.length:Int)<1)) with b | b
  ·refine Gn b<|Gn b<|Gn b<|Pt b ?_
   exact We ⟨(orT b),ag,rfl⟩
  refine Gy b<|M<|Gy b<|Nq k<|Gy b<|Lc<|Pf b ?_
  exact We ⟨(orF b),ag,rfl⟩
 intro us
 refine We ?_
 rcases condE h with ⟨i,h⟩ | ⟨i,h⟩
 ·refine CT i<|Ws<|Wg<|A<|We ?_
  obtain rfl:=oi h
  refine WP.ret (Out.one rfl S rfl ?_)
  exact rfl
 refine CF i ?_
 cases h
theorem zIT {c:World} {b:Hp} (hw:Holds c b) (hG:Tryz.Gl c) (i:(List GField)) (d:(List GAxis)) {j:Value} {k:Value} (q:Sl (α:=GField) b j i) (o:Sl (α:=GAxis) b k d) {r:((List (List Str))×Int)} (h:zES i d=some r) :
  Con Tryz.prog 196 [j,k] c b (fun H' v=>∃ l:Value,v=(.tuple ⟨[l,(int r.2)]⟩)∧Sl (α:=(List Str)) H' l r.1):=by
 refine Con.mk (N:=67) Tryz.func196 rfl rfl kr rfl ?_
 have S:=St.start hw
 refine Ws<|Wg<|A<|A<|We<|Ws<|Ws<|Wg<|M<|B h fun t p h=>W.call S rfl (zEE S.holds (hG.post S.post) d o p) ?_
 rintro u x z aa S rfl
 refine No<|We ?_
 rcases condE h with ⟨f,h⟩ | ⟨f,h⟩
 ·refine CT f<|Ws<|Wg<|A<|A<|We ?_
  obtain rfl:=oi h
  refine WP.ret (Out.two rfl S rfl rfl ?_)
  exact ⟨_,rfl,Sl.nil⟩
 refine CF f ?_
 cases h
theorem zIQ {u:World} {k:Hp} (hw:Holds u k) (hG:Tryz.Gl u) (c:GRequest) (b:GResponse) (d:Int) (j:Int) {q:Value} {p:Value} (aj:Sl (α:=GField) k q c.fFields) (aa:Sl (α:=GField) k p b.fFields) {r:(GEntry×(List GAxis))} (h:zGo c b d j=some r) :
  Con Tryz.prog 127 [(agg [(str c.fMethod),(str c.fTarget),(int c.fMinor),q,(str c.fBody)]),(agg [(int b.fMinor),(int b.fStatus),(str b.fReason),p,(str b.fBody)]),(int d),(int j)] u k (fun H' v=>∃ u1 u2 u3 u4 u5:Value,v=(.tuple ⟨[(agg [u1,u2,u3,(str r.1.fReason),u4,(str r.1.fBody),(int r.1.fRequested),(int r.1.fReceived)]),u5]⟩)∧Sl (α:=(List Str)) H' u1 r.1.fKeys∧Sl (α:=Str) H' u2 r.1.fVary∧Sl (α:=Str) H' u3 r.1.fSnapshot∧Sl (α:=GField) H' u4 r.1.fFields∧Sl (α:=GAxis) H' u5 r.2):=by
 refine Con.mk (N:=62) Tryz.func127 rfl rfl kr rfl ?_
 have S:=St.start hw
 refine Ws<|Wg ?_
 refine W.box [(str c.fMethod),(str c.fTarget),(int c.fMinor),q,(str c.fBody)] S rfl rfl ?_
 intro b1 w2 S
 refine W.box [(int b.fMinor),(int b.fStatus),(str b.fReason),p,(str b.fBody)] S rfl rfl ?_
 intro b3 w4 S
 refine W.alloc [(.slice none 0 0),(.slice none 0 0),(.slice none 0 0),(str []),(.slice none 0 0),(str []),(int 0),(int 0)] S zer92 ?_
 intro b5 w6 S
 refine A<|We<|Ws<|B h fun r7 bb h=>WP.cut (fun f w=>∃ (an:Hp) (av:Nat) (x:Value),f 4=(ptr b1 0)∧f 5=(ptr b3 0)∧f 8=(ptr b5 0)∧f 10=(ptr av 0)∧Sl (α:=GField) an x r7∧Sl (α:=GField) an p b.fFields∧Sl (α:=GField) an q c.fFields∧St u k w an [.box av 92 [(.slice none 0 0),(.slice none 0 0),(.slice none 0 0),(str b.fReason),x,(str b.fBody),(int d),(int j)],.box b5 92 [(.slice none 0 0),(.slice none 0 0),(.slice none 0 0),(str []),(.slice none 0 0),(str []),(int 0),(int 0)],.box b3 24 [(int b.fMinor),(int b.fStatus),(str b.fReason),p,(str b.fBody)],.box b1 94 [(str c.fMethod),(str c.fTarget),(int c.fMinor),q,(str c.fBody)]]) ?_ ?_
 ·refine WP.drawC (Cl u k k [.box b5 92 [(.slice none 0 0),(.slice none 0 0),(.slice none 0 0),(str []),(.slice none 0 0),(str []),(int 0),(int 0)],.box b3 24 [(int b.fMinor),(int b.fStatus),(str b.fReason),p,(str b.fBody)],.box b1 94 [(str c.fMethod),(str c.fTarget),(int c.fMinor),q,(str c.fBody)]]) kr 12 rfl (bm 12 0) rfl ?_
  have S:=S.drew
  refine WC.take (i:=0) (bm 12 1) rfl kr kr kr rfl (fun _ _=>(R.fieldB rfl zLy)) ?_
  refine WC.take (i:=1) (bm 12 3) rfl kr kr kr rfl (fun w hw=>by obtain ⟨_,hq,S⟩:=hw; exact (R.loadB (i:=1) (v:=str b.fReason) S rfl rfl lay9 rfl)) ?_
  refine WC.take (i:=2) (bm 12 7) rfl kr kr kr rfl (fun _ _=>(R.fieldB rfl zKm)) ?_
  refine WC.take (i:=3) (bm 12 15) rfl kr kr kr rfl (fun w hw=>by obtain ⟨_,hq,S⟩:=hw; exact (R.loadB (i:=1) (v:=p) S rfl rfl lay22 rfl)) ?_
  refine WC.take (i:=5) (bm 12 47) rfl kr kr kr rfl (fun _ _=>(R.fieldB rfl zLe)) ?_
  refine WC.take (i:=6) (bm 12 111) rfl kr kr kr rfl (fun w hw=>by obtain ⟨_,hq,S⟩:=hw; exact (R.loadB (i:=1) (v:=str b.fBody) S rfl rfl lay9 rfl)) ?_
  refine WC.take (i:=7) (bm 12 239) rfl kr kr kr rfl (fun _ _=>(R.mv (v:=int d) rfl)) ?_
  refine WC.take (i:=8) (bm 12 495) rfl kr kr kr rfl (fun _ _=>(R.mv (v:=int j) rfl)) ?_
  refine WC.next (rs:=[4,10]) ⟨k,(Hp.le.refl _),S.drop _ (.cons_cons _ (.cons_cons _ (.cons_cons _ .slnil)))⟩ kr (List.cons_ne_nil _ _) (allS ?_ (all1 ?_))
  ·refine Nxt.mk (o:=_) (bm 12 511) rfl rfl<|W.call S rfl (zAR S.holds (hG.post S.post) b.fFields aa bb) ?_
   rintro ae bt ak ao S aw
   have aj:=Sl.mono aj ao
   have aa:=Sl.mono aa ao
   refine We ?_
   refine WC.take (i:=9) (bm 12 1023) rfl kr kr kr rfl (fun _ _=>(R.build [(3,(str b.fReason)),(4,ae),(5,(str b.fBody)),(6,(int d)),(7,(int j))] [(.slice none 0 0),(.slice none 0 0),(.slice none 0 0),(str b.fReason),ae,(str b.fBody),(int d),(int j)] bp92 zer92 kr (by obtain ⟨_,_,rfl,_⟩:=aw; rfl))) ?_
   refine WC.next (rs:=[10]) ⟨ak,ao,S.drop _ (.cons_cons _ (.cons_cons _ (.cons_cons _ .slnil)))⟩ kr (List.cons_ne_nil _ _) (all1 ?_)
   refine Nxt.mk (o:=_) (bm 12 2047) rfl rfl ?_
   refine W.alloc [(.slice none 0 0),(.slice none 0 0),(.slice none 0 0),(str []),(.slice none 0 0),(str []),(int 0),(int 0)] S zer92 ?_
   intro ax bu S
   refine We ?_
   refine WC.next (rs:=[11]) ⟨ak,ao,S.drop _ (.cons _ (.cons_cons _ (.cons_cons _ (.cons_cons _ .slnil))))⟩ kr (List.cons_ne_nil _ _) (all1 ?_)
   refine Nxt.mk (o:=_) (bm 12 4095) rfl rfl ?_
   refine W.store (i:=0) [(.slice none 0 0),(.slice none 0 0),(.slice none 0 0),(str b.fReason),ae,(str b.fBody),(int d),(int j)] S rfl rfl rfl lay92 rfl (AllOne.all (l:=[(.slice none 0 0),(.slice none 0 0),(.slice none 0 0),(str b.fReason),ae,(str b.fBody),(int d),(int j)]) (.cons rfl (.cons rfl (.cons rfl (.cons rfl (.cons (Sl.oneC aw) (.cons rfl (.cons rfl (.cons rfl .nil))))))))) (Nat.le_of_ble_eq_true rfl) rfl ?_
   intro bv S
   refine We<|WC.done ⟨ak,ao,S.drop _ (.cons _ (.cons_cons _ (.cons_cons _ (.cons_cons _ .slnil))))⟩ kr ?_
   have S3:=S
   replace S3:=S3.front 3 rfl
   replace S3:=S3.front 3 rfl
   replace S3:=S3.front 3 rfl
   replace S3:=S3.front 3 rfl
   replace S3:St u k _ ak [.box ax 92 [(.slice none 0 0),(.slice none 0 0),(.slice none 0 0),(str b.fReason),ae,(str b.fBody),(int d),(int j)],.box b5 92 [(.slice none 0 0),(.slice none 0 0),(.slice none 0 0),(str []),(.slice none 0 0),(str []),(int 0),(int 0)],.box b3 24 [(int b.fMinor),(int b.fStatus),(str b.fReason),p,(str b.fBody)],.box b1 94 [(str c.fMethod),(str c.fTarget),(int c.fMinor),q,(str c.fBody)]]:=S3
   replace S3:St u k _ ak [.box ax 92 [(.slice none 0 0),(.slice none 0 0),(.slice none 0 0),(str b.fReason),ae,(str b.fBody),(int d),(int j)],.box b5 92 [(.slice none 0 0),(.slice none 0 0),(.slice none 0 0),(str []),(.slice none 0 0),(str []),(int 0),(int 0)],.box b3 24 [(int b.fMinor),(int b.fStatus),(str b.fReason),p,(str b.fBody)],.box b1 94 [(str c.fMethod),(str c.fTarget),(int c.fMinor),q,(str c.fBody)]]:=S3.drop _ (.cons_cons _ (.cons_cons _ (.cons_cons _ (.cons_cons _ .slnil))))
   exact ⟨ak,ax,ae,rfl,rfl,rfl,rfl,aw,aa,aj,S3⟩
  refine Nxt.mk (o:=_) (bm 12 1519) rfl rfl ?_
  refine W.alloc [(.slice none 0 0),(.slice none 0 0),(.slice none 0 0),(str []),(.slice none 0 0),(str []),(int 0),(int 0)] S zer92 ?_
  intro ay bw S
  refine We ?_
  refine WC.next (rs:=[4]) ⟨k,(Hp.le.refl _),S.drop _ (.cons _ (.cons_cons _ (.cons_cons _ (.cons_cons _ .slnil))))⟩ kr (List.cons_ne_nil _ _) (all1 ?_)
  refine Nxt.mk (o:=_) (bm 12 1535) rfl rfl<|W.call S rfl (zAR S.holds (hG.post S.post) b.fFields aa bb) ?_
  rintro af bx ap ar S az
  have aj:=Sl.mono aj ar
  have aa:=Sl.mono aa ar
  refine We ?_
  refine WC.take (i:=9) (bm 12 2047) rfl kr kr kr rfl (fun _ _=>(R.build [(3,(str b.fReason)),(4,af),(5,(str b.fBody)),(6,(int d)),(7,(int j))] [(.slice none 0 0),(.slice none 0 0),(.slice none 0 0),(str b.fReason),af,(str b.fBody),(int d),(int j)] bp92 zer92 kr (by obtain ⟨_,_,rfl,_⟩:=az; rfl))) ?_
  refine WC.next (rs:=[11]) ⟨ap,ar,S.drop _ (.cons _ (.cons_cons _ (.cons_cons _ (.cons_cons _ .slnil))))⟩ kr (List.cons_ne_nil _ _) (all1 ?_)
  refine Nxt.mk (o:=_) (bm 12 4095) rfl rfl ?_
  refine W.store (i:=0) [(.slice none 0 0),(.slice none 0 0),(.slice none 0 0),(str b.fReason),af,(str b.fBody),(int d),(int j)] S rfl rfl rfl lay92 rfl (AllOne.all (l:=[(.slice none 0 0),(.slice none 0 0),(.slice none 0 0),(str b.fReason),af,(str b.fBody),(int d),(int j)]) (.cons rfl (.cons rfl (.cons rfl (.cons rfl (.cons (Sl.oneC az) (.cons rfl (.cons rfl (.cons rfl .nil))))))))) (Nat.le_of_ble_eq_true rfl) rfl ?_
  intro bz S
  refine We<|WC.done ⟨ap,ar,S.drop _ (.cons _ (.cons_cons _ (.cons_cons _ (.cons_cons _ .slnil))))⟩ kr ?_
  have S3:=S
  replace S3:=S3.front 3 rfl
  replace S3:=S3.front 3 rfl
  replace S3:=S3.front 3 rfl
  replace S3:=S3.front 3 rfl
  replace S3:St u k _ ap [.box ay 92 [(.slice none 0 0),(.slice none 0 0),(.slice none 0 0),(str b.fReason),af,(str b.fBody),(int d),(int j)],.box b5 92 [(.slice none 0 0),(.slice none 0 0),(.slice none 0 0),(str []),(.slice none 0 0),(str []),(int 0),(int 0)],.box b3 24 [(int b.fMinor),(int b.fStatus),(str b.fReason),p,(str b.fBody)],.box b1 94 [(str c.fMethod),(str c.fTarget),(int c.fMinor),q,(str c.fBody)]]:=S3
  replace S3:St u k _ ap [.box ay 92 [(.slice none 0 0),(.slice none 0 0),(.slice none 0 0),(str b.fReason),af,(str b.fBody),(int d),(int j)],.box b5 92 [(.slice none 0 0),(.slice none 0 0),(.slice none 0 0),(str []),(.slice none 0 0),(str []),(int 0),(int 0)],.box b3 24 [(int b.fMinor),(int b.fStatus),(str b.fReason),p,(str b.fBody)],.box b1 94 [(str c.fMethod),(str c.fTarget),(int c.fMinor),q,(str c.fBody)]]:=S3.drop _ (.cons_cons _ (.cons_cons _ (.cons_cons _ (.cons_cons _ .slnil))))
  exact ⟨ap,ay,af,rfl,rfl,rfl,rfl,az,aa,aj,S3⟩
 rintro f w ⟨an,av,x,bg,a0,bc,au,t,ah,ai,S⟩
 refine Ws<|Wg<|Fb' a0 ?_
 refine Lo 2 S<|B h fun a1 bh h=>W.call S rfl (zI2 S.holds (hG.post S.post) b.fFields ah bh) ?_
 rintro b0 b2 b4 a2 S ⟨b6,rfl,bi⟩
 have ah:=Sl.mono ah a2
 have t:=Sl.mono t a2
 have ai:=Sl.mono ai a2
 refine M ?_
 refine Ex ?_
 refine Ex<|A<|A<|We<|Ws<|Wg<|Fb' a0 ?_
 refine Lo 2 S<|M<|B h fun bj bk h=>W.call S rfl (zIT S.holds (hG.post S.post) b.fFields a1.1 ah bi bk) ?_
 rintro b7 b8 b9 a3 S ⟨ca,rfl,cb⟩
 have ah:=Sl.mono ah a3
 have t:=Sl.mono t a3
 have ai:=Sl.mono ai a3
 refine M ?_
 refine Ex ?_
 refine Ex<|A<|A<|We<|Ws<|Ws<|Wg<|M<|Le<|M ?_
 refine WL.grp 3 [41,42] 43 (boo ((a1.2==0)&&(bj.2==0))) ?_ ?_
 ·rcases boolE (a1.2==0) with z | z
  ·refine Gy z<|M<|Gy z<|Le<|Pt z ?_
   exact We ⟨(andT z),ag,rfl⟩
  refine Gn z<|Gn z<|Pf z ?_
  exact We ⟨(andF z),ag,rfl⟩
 intro us
 refine We ?_
 rcases condE h with ⟨a4,h⟩ | ⟨a4,h⟩
 ·refine CT a4 ?_
  cases h
 refine CF a4<|Wk<|Ws<|Wg<|Fb' a0 ?_
 refine Lo 2 S<|B h fun bn bo h=>W.call S rfl (zID S.holds (hG.post S.post) b.fFields ah bo) ?_
 rintro cc cd ce bd S ⟨al,rfl,am⟩
 have t:=Sl.mono t bd
 have ai:=Sl.mono ai bd
 refine M ?_
 refine Ex ?_
 refine Ex<|Fb' au ?_
 refine W.storeSl (α:=Str) (i:=0) [(.slice none 0 0),al,(.slice none 0 0),(str b.fReason),x,(str b.fBody),(int d),(int j)] S am rfl rfl rfl lay45 (Nat.le_of_ble_eq_true rfl) rfl ?_
 intro cf S
 refine We<|Ws<|Wg<|Fb' au ?_
 refine Lo 0 S<|Fb' bg ?_
 refine Lo 3 S<|B h fun cg bp h=>W.call S rfl (zGr S.holds (hG.post S.post) bn.1 c.fFields am ai bp) ?_
 rintro aq ch ci be S a5
 have am:=Sl.mono am be
 have t:=Sl.mono t be
 refine Fb' au ?_
 refine W.storeSl (α:=Str) (i:=0) [(.slice none 0 0),al,aq,(str b.fReason),x,(str b.fBody),(int d),(int j)] S a5 rfl rfl rfl lay45 (Nat.le_of_ble_eq_true rfl) rfl ?_
 intro cj S
 refine We<|Ws<|Wg ?_
 refine WL.w (R.loadBN (i:=0) (vs:=[(.slice none 0 0),al,aq,(str b.fReason),x,(str b.fBody),(int d),(int j)]) S au rfl lay92 rfl rfl) ?_
 refine W.store (i:=1) [(.slice none 0 0),al,aq,(str b.fReason),x,(str b.fBody),(int d),(int j)] S bc rfl rfl lay92 rfl (AllOne.all (l:=[(.slice none 0 0),al,aq,(str b.fReason),x,(str b.fBody),(int d),(int j)]) (.cons rfl (.cons (Sl.oneC am) (.cons (Sl.oneC a5) (.cons rfl (.cons (Sl.oneC t) (.cons rfl (.cons rfl (.cons rfl .nil))))))))) (Nat.le_of_ble_eq_true rfl) rfl ?_
 intro ck S
 refine A<|We ?_
 obtain rfl:=oi h
 refine WP.ret (Out.two rfl S (Res.cellB (i:=1) (cs:=[(.slice none 0 0),al,aq,(str b.fReason),x,(str b.fBody),(int d),(int j)]) S bc rfl lay92 rfl rfl) rfl ?_)
 exact ⟨_,_,_,_,_,rfl,Sl.nil,am,a5,t,Sl.nil⟩
theorem zI4 {l:World} {c:Hp} (hw:Holds l c) (hG:Tryz.Gl l) (b:GEntry) (o:Str) {d:Value} {f:Value} {j:Value} {k:Value} (p:Sl (α:=(List Str)) c d b.fKeys) (q:Sl (α:=Str) c f b.fVary) (t:Sl (α:=Str) c j b.fSnapshot) (u:Sl (α:=GField) c k b.fFields) {r:Bool} (h:zD4 b o=some r) :
  Con Tryz.prog 118 [(agg [d,f,j,(str b.fReason),k,(str b.fBody),(int b.fRequested),(int b.fReceived)]),(str o)] l c (fun H' v=>v=(boo r)):=by
 refine Con.mk (N:=10) Tryz.func118 rfl rfl kr rfl ?_
 have S:=St.start hw
 refine Ws<|Wg ?_
 refine W.box [d,f,j,(str b.fReason),k,(str b.fBody),(int b.fRequested),(int b.fReceived)] S rfl rfl ?_
 intro b1 w2 S
 refine A<|We<|Ws<|Wg ?_
 refine WL.w (R.loadBN (i:=0) (vs:=[d,f,j,(str b.fReason),k,(str b.fBody),(int b.fRequested),(int b.fReceived)]) S rfl rfl lay92 rfl rfl)<|M<|B h fun x z h=>W.call S rfl (zN7 S.holds (hG.post S.post) b 2147483647 o p q t u z) ?_
 rintro v4 w5 H6 ai S ⟨u8,rfl,R9⟩
 refine B h fun ak ab h=>W.call S rfl (zDK S.holds (hG.post S.post) x [71,69,84] R9 ab) ?_
 rintro al am an ao S rfl
 refine Nb<|A<|We ?_
 obtain rfl:=oi h
 refine WP.ret (Out.one rfl S rfl ?_)
 exact rfl
theorem zGn {c:World} {b:Hp} (hw:Holds c b) (hG:Tryz.Gl c) (i:(List Str)) {l:Value} (p:Sl (α:=Str) b l i) {r:Int} (h:zDL i=some r) :
  Con Tryz.prog 253 [l] c b (fun H' v=>v=(int r)):=by
 refine Con.mk (N:=19) Tryz.func253 rfl rfl kr rfl ?_
 have S:=St.start hw
 refine Ws<|Wg<|A<|We<|Ws<|Wg<|A<|We<|Ws<|Ws<|Wg<|M ?_
 refine Nq p<|M<|We<|B h fun q t h=>WP.cut (fun f w=>∃ (o:Hp),f 3=(int 0)∧St c b w o []) ?_ ?_
 ·refine Wb ?_
  refine WP.loopM (zEo i) (fun s f w=>match s with | _=>∃ (j:Hp),f 3=(int 0)∧f 7=(int (i.length:Int))∧f 8=(int 0)∧St c b w j []) () q (lfW t) ?_ ?_
  ·exact ⟨b,rfl,rfl,rfl,S⟩
  intro s f w hI y7 d u
  obtain ⟨j,x,z,h4,S⟩:=hI
  refine Ws<|Wg<|La' h4 z<|We<|Ws ?_
  rcases condE d with ⟨k,d⟩ | ⟨k,d⟩
  ·refine CT k ?_
   cases d
  refine CF k<|Wx ?_
  obtain rfl:=oi d
  obtain rfl:=u
  exact ⟨j,x,S⟩
 rintro f w ⟨o,h6,S⟩
 refine Ws<|Wg<|M' h6<|A<|We ?_
 obtain rfl:=oi h
 refine WP.ret (Out.one rfl S rfl ?_)
 exact rfl
theorem zBb {u:World} {c:Hp} (hw:Holds u c) (hG:Tryz.Gl u) (b:GEntry) {x:Value} {j:Value} {k:Value} {l:Value} (o:Sl (α:=(List Str)) c x b.fKeys) (p:Sl (α:=Str) c j b.fVary) (q:Sl (α:=Str) c k b.fSnapshot) (d:Sl (α:=GField) c l b.fFields) {r:Int} (h:zFN b=some r) :
  Con Tryz.prog 186 [(agg [x,j,k,(str b.fReason),l,(str b.fBody),(int b.fRequested),(int b.fReceived)])] u c (fun H' v=>v=(int r)):=by
 refine Con.mk (N:=55) Tryz.func186 rfl rfl kr rfl ?_
 have S:=St.start hw
 refine Ws<|Wg ?_
 refine W.box [x,j,k,(str b.fReason),l,(str b.fBody),(int b.fRequested),(int b.fReceived)] S rfl rfl ?_
 intro b1 w2 S
 refine A<|We<|Ws<|WP.quiet S kr kr<|QFb ?_
 refine WQ.val (fun w hw=>by obtain ⟨_,hq,S⟩:=hw; exact (R.loadB (i:=0) (v:=str b.fReason) S rfl rfl lay9 rfl))<|QNs<|QLg<|QFb ?_
 refine WQ.val (fun w hw=>by obtain ⟨_,hq,S⟩:=hw; exact (R.loadB (i:=0) (v:=str b.fBody) S rfl rfl lay9 rfl))<|QNs<|QLg ?_
 refine QFb ?_
 refine WQ.val (fun w hw=>by obtain ⟨_,hq,S⟩:=hw; exact (R.loadB (i:=0) (v:=j) S rfl rfl lay45 rfl))<|B h fun r6 aw h=>WQ.call (v:=int r6) rfl (fun w H' hq S=>zGn S.holds (hG.post S.post) b.fVary (Sl.mono p hq) aw)<|QLg<|QFb ?_
 refine WQ.val (fun w hw=>by obtain ⟨_,hq,S⟩:=hw; exact (R.loadB (i:=0) (v:=k) S rfl rfl lay45 rfl))<|B h fun am ax h=>WQ.call (v:=int am) rfl (fun w H' hq S=>zGn S.holds (hG.post S.post) b.fSnapshot (Sl.mono q hq) ax)<|QLg<|QA<|WQ.nil ?_
 intro w3 H4 ad S
 have o:=Sl.mono o ad
 have p:=Sl.mono p ad
 have q:=Sl.mono q ad
 have d:=Sl.mono d ad
 refine Ws<|Ws<|Wg<|Fb ?_
 refine Lo 0 S<|Nq d<|M<|We<|B h fun ae az h=>WP.cut (fun f w=>∃ (z:Hp),f 1=(ptr b1 0)∧f 3=(int ae)∧Sl (α:=(List Str)) z x b.fKeys∧Sl (α:=Str) z j b.fVary∧Sl (α:=Str) z k b.fSnapshot∧Sl (α:=GField) z l b.fFields∧St u c w z [.box b1 92 [x,j,k,(str b.fReason),l,(str b.fBody),(int b.fRequested),(int b.fReceived)]]) ?_ ?_
 ·refine Wb ?_
  refine WP.loopM (zGa b) (fun s f w=>match s with | (an,ao)=>∃ (t:Hp),f 1=(ptr b1 0)∧f 3=(int an)∧f 25=l∧f 26=(int (b.fFields.length:Int))∧f 27=(int ao)∧Sl (α:=GField) t l b.fFields∧Sl (α:=(List Str)) t x b.fKeys∧Sl (α:=Str) t j b.fVary∧Sl (α:=Str) t k b.fSnapshot∧St u c w t [.box b1 92 [x,j,k,(str b.fReason),l,(str b.fBody),(int b.fRequested),(int b.fReceived)]]) (wr ((wr ((wr ((wr (100+(b.fReason.length:Int)))+(b.fBody.length:Int)))+r6))+am),0) ae (lfW az) ?_ ?_
  ·exact ⟨H4,rfl,rfl,rfl,rfl,rfl,d,o,p,q,S⟩
  intro s f w hI be aa a0
  obtain ⟨an,ao⟩:=s
  obtain ⟨t,ap,aq,ar,au,ah,d,o,p,q,S⟩:=hI
  refine Ws<|Wg<|La' ah au<|We<|Ws ?_
  rcases condE aa with ⟨ai,aa⟩ | ⟨ai,aa⟩
  ·refine CT ai<|Wk<|Ws<|Wb<|Ws<|Wg<|B aa fun af a1 aa=>W.idx (α:=GField) d ar ah el22 a1 ?_
   rintro bf _ a2 rfl
   refine WL.w (R.loadHN (vs:=[(str af.fName),(str af.fValue)]) S rfl a2 lay68 rfl rfl) ?_
   refine W.alloc [(str []),(str [])] S zer68 ?_
   intro bg bh S
   refine W.store (i:=0) [(str af.fName),(str af.fValue)] S rfl rfl rfl lay68 rfl rfl (Nat.le_of_ble_eq_true rfl) rfl ?_
   intro bi S
   refine We<|Wg<|M' aq<|Fb ?_
   refine Lo 0 S<|Ns<|Lg<|Fb ?_
   refine Lo 0 S<|Ns<|Lg<|Lg ?_
   refine A<|We<|Wg<|Lg' ah rfl<|M<|We ?_
   obtain rfl:=oi aa
   exact ⟨rfl,⟨t,ap,rfl,ar,au,rfl,d,o,p,q,(S.drop _ (.cons _ (.cons_cons _ .slnil)))⟩⟩
  refine CF ai<|Wx ?_
  obtain rfl:=oi aa
  obtain rfl:=a0
  exact ⟨t,ap,aq,o,p,q,d,S⟩
 rintro f w ⟨z,a3,a4,o,p,q,d,S⟩
 refine Ws<|Ws<|Wg<|Fb' a3 ?_
 refine Lo 0 S<|Nq o<|M<|We<|B h fun a5 a6 h=>WP.cut (fun f w=>∃ (av:Hp),f 3=(int ae)∧St u c w av []) ?_ ?_
 ·refine Wb ?_
  refine WP.loopM (zGX b) (fun s f w=>match s with | _=>∃ (aj:Hp),f 3=(int ae)∧f 44=(int (b.fKeys.length:Int))∧f 45=(int 0)∧St u c w aj []) () a5 (lfW a6) ?_ ?_
  ·exact ⟨z,a4,rfl,rfl,(S.drop _ (.cons _ .slnil))⟩
  intro s f w hI bj ab a7
  obtain ⟨aj,a8,a9,ba,S⟩:=hI
  refine Ws<|Wg<|La' ba a9<|We<|Ws ?_
  rcases condE ab with ⟨ak,ab⟩ | ⟨ak,ab⟩
  ·refine CT ak ?_
   cases ab
  refine CF ak<|Wx ?_
  obtain rfl:=oi ab
  obtain rfl:=a7
  exact ⟨aj,a8,S⟩
 rintro f w ⟨av,bb,S⟩
 refine Ws<|Wg<|M' bb<|A<|We ?_
 obtain rfl:=oi h
 refine WP.ret (Out.one rfl S rfl ?_)
 exact rfl
theorem zA6 {c:World} {b:Hp} (hw:Holds c b) (hG:Tryz.Gl c) (i:(List GAxis)) (q:(List GAxis)) (t:(GAxis→GAxis→Option Bool)) {u:Value} {x:Value} {kp_eq:FuncId} {cp_eq:List Value} (z:Sl (α:=GAxis) b u i) (ad:Sl (α:=GAxis) b x q) (Fp_eq:∀ {w:World} {H:Hp},b.le H→Holds w H→Tryz.Gl w→∀ (j:GAxis) (k:GAxis),∀ {aa ab:Value},Sl (α:=Str) H aa j.fValues→Sl (α:=Str) H ab k.fValues→∀ (rr:Bool),t j k=some rr→Con Tryz.prog kp_eq ([(agg [(str j.fName),aa]),(agg [(str k.fName),ab])]++cp_eq) w H (fun H' v=>v=(boo rr))) {r:Bool} (h:zAH i q t=some r) :
  Con Tryz.prog 303 [u,x,(.func (.func kp_eq) #[] cp_eq.toArray)] c b (fun H' v=>v=(boo r)):=by
 refine Con.mk (N:=32) Tryz.func303 rfl rfl kr rfl ?_
 have S:=St.start hw
 refine Ws<|Wg<|A<|We<|Ws<|Ws<|Wg<|M<|Nq z<|M<|Nq ad<|Lf ?_
 refine We ?_
 rcases condE h with ⟨l,h⟩ | ⟨l,h⟩
 ·refine CT l ?_
  cases h
 refine CF l<|Wk<|Ws<|Ws<|Wg<|M<|Nq z<|M<|We<|B h fun r9 af h=>WP.cut (fun f w=>∃ (H5:Hp),St c b w H5 []) ?_ ?_
 ·refine Wb ?_
  refine WP.loopM (zAI i) (fun s f w=>match s with | _=>∃ (o:Hp),f 16=(int (i.length:Int))∧f 17=(int 0)∧St c b w o []) () r9 (lfW af) ?_ ?_
  ·exact ⟨b,rfl,rfl,S⟩
  intro s f w hI y6 d ah
  obtain ⟨o,h3,h4,S⟩:=hI
  refine Ws<|Wg<|La' h4 h3<|We<|Ws ?_
  rcases condE d with ⟨p,d⟩ | ⟨p,d⟩
  ·refine CT p ?_
   cases d
  refine CF p<|Wx ?_
  obtain rfl:=oi d
  obtain rfl:=ah
  exact ⟨o,S⟩
 rintro f w ⟨H5,S⟩
 refine Ws<|Wg<|A<|We ?_
 obtain rfl:=oi h
 refine WP.ret (Out.one rfl S rfl ?_)
 exact rfl
theorem zIJ {c:World} {b:Hp} (hw:Holds c b) (hG:Tryz.Gl c) (d:GAxis) (f:GAxis) {i:Value} {j:Value} (k:Sl (α:=Str) b i d.fValues) (l:Sl (α:=Str) b j f.fValues) {r:Bool} (h:zC6 d f=some r) :
  Con Tryz.prog 304 [(agg [(str d.fName),i]),(agg [(str f.fName),j])] c b (fun H' v=>v=(boo r)):=by
 refine Con.mk (N:=17) Tryz.func304 rfl rfl kr rfl ?_
 have S:=St.start hw
 cases h
theorem zI6 {c:World} {b:Hp} (hw:Holds c b) (hG:Tryz.Gl c) (d:(List GAxis)) (f:(List GAxis)) {i:Value} {j:Value} (k:Sl (α:=GAxis) b i d) (l:Sl (α:=GAxis) b j f) {r:Bool} (h:zD5 d f=some r) :
  Con Tryz.prog 264 [i,j] c b (fun H' v=>v=(boo r)):=by
 refine Con.mk (N:=8) Tryz.func264 rfl rfl kr rfl ?_
 have S:=St.start hw
 refine Ws<|Wg<|A<|We<|Ws<|Wg<|M<|M<|B h fun x o h=>W.call S rfl (zA6 S.holds (hG.post S.post) d f zC6 k l (fun hle hw hG p q=>fun t u r h=>zIJ hw hG p q t u h) o) ?_
 rintro z w3 H4 ac S rfl
 refine A<|We ?_
 obtain rfl:=oi h
 refine WP.ret (Out.one rfl S rfl ?_)
 exact rfl
theorem zJ8 {f:World} {b:Hp} (hw:Holds f b) (hG:Tryz.Gl f) (c:GEntry) (i:(List GAxis)) (d:GEntry) {j:Value} {k:Value} {l:Value} {o:Value} {p:Value} {q:Value} {t:Value} {u:Value} {x:Value} {z:Addr} {aa:Addr} (ab:Sl (α:=(List Str)) b j c.fKeys) (ac:Sl (α:=Str) b k c.fVary) (ad:Sl (α:=Str) b l c.fSnapshot) (ae:Sl (α:=GField) b o c.fFields) (af:At b z [p]) (ah:Sl (α:=GAxis) b p i) (ai:At b aa [q,t,u,(str d.fReason),x,(str d.fBody),(int d.fRequested),(int d.fReceived)]) (aj:Sl (α:=(List Str)) b q d.fKeys) (ak:Sl (α:=Str) b t d.fVary) (al:Sl (α:=Str) b u d.fSnapshot) (am:Sl (α:=GField) b x d.fFields) {r:Bool} (h:zF5 c i d=some r) :
  Con Tryz.prog 266 [(agg [j,k,l,(str c.fReason),o,(str c.fBody),(int c.fRequested),(int c.fReceived)]),(.pointer (some z)),(.pointer (some aa))] f b (fun H' v=>v=(boo r)):=by
 refine Con.mk (N:=9) Tryz.func266 rfl rfl kr rfl ?_
 have S:=St.start hw
 cases h
theorem zCs {d:World} {c:Hp} (hw:Holds d c) (hG:Tryz.Gl d) (j:(List GEntry)) (o:(GEntry→Option Bool)) {p:Value} {kp_f:FuncId} {cp_f:List Value} (aa:Sl (α:=GEntry) c p j) (Fp_f:∀ {w:World} {H:Hp},c.le H→Holds w H→Tryz.Gl w→∀ (b:GEntry),∀ {q t u x:Value},Sl (α:=(List Str)) H q b.fKeys→Sl (α:=Str) H t b.fVary→Sl (α:=Str) H u b.fSnapshot→Sl (α:=GField) H x b.fFields→∀ (rr:Bool),o b=some rr→Con Tryz.prog kp_f ([(agg [q,t,u,(str b.fReason),x,(str b.fBody),(int b.fRequested),(int b.fReceived)])]++cp_f) w H (fun H' v=>v=(boo rr))) {r:Int} (h:zAO j o=some r) :
  Con Tryz.prog 305 [p,(.func (.func kp_f) #[] cp_f.toArray)] d c (fun H' v=>v=(int r)):=by
 refine Con.mk (N:=19) Tryz.func305 rfl rfl kr rfl ?_
 have S:=St.start hw
 refine Ws<|Wg<|A<|We<|Ws<|Ws<|Wg<|M<|Nq aa<|M<|We<|B h fun r8 ac h=>WP.cut (fun f w=>∃ (z:Hp),St d c w z []) ?_ ?_
 ·refine Wb ?_
  refine WP.loopM (zAX j) (fun s f w=>match s with | _=>∃ (k:Hp),f 7=(int (j.length:Int))∧f 8=(int 0)∧St d c w k []) () r8 (lfW ac) ?_ ?_
  ·exact ⟨c,rfl,rfl,S⟩
  intro s f w hI y5 i ad
  obtain ⟨k,h2,h3,S⟩:=hI
  refine Ws<|Wg<|La' h3 h2<|We<|Ws ?_
  rcases condE i with ⟨l,i⟩ | ⟨l,i⟩
  ·refine CT l ?_
   cases i
  refine CF l<|Wx ?_
  obtain rfl:=oi i
  obtain rfl:=ad
  exact ⟨k,S⟩
 rintro f w ⟨z,S⟩
 refine Ws<|Wg<|A<|We ?_
 obtain rfl:=oi h
 refine WP.ret (Out.one rfl S rfl ?_)
 exact rfl
theorem zCR {w0 ws:World} {H0 Hs:Hp} {L2:List Ent} (hG:Tryz.Gl w0) (b:(List GEntry)) (ad:(GEntry→Option Bool)) {v:Value} {en:Ent} {kd:FuncId} {cd:List Value} (S:St w0 H0 ws Hs (en :: L2)) (RM:MR (α:=GEntry) Hs en 92 v b)
  (F:∀ {w:World} {H:Hp},Hs.le H→Holds w H→Tryz.Gl w→∀ (d:GEntry),∀ {al am an ao:Value},Sl (α:=(List Str)) H al d.fKeys→Sl (α:=Str) H am d.fVary→Sl (α:=Str) H an d.fSnapshot→Sl (α:=GField) H ao d.fFields→∀ (rr:Bool),ad d=some rr→Con Tryz.prog kd ([(agg [al,am,an,(str d.fReason),ao,(str d.fBody),(int d.fRequested),(int d.fReceived)])]++cd) w H (fun H' v=>v=(boo rr)))
  {r:List GEntry} (h:zAJ b ad=some r) :
  ConS Tryz.prog 265 [v,(.func (.func kd) #[] cd.toArray)] w0 H0 ws Hs L2 (fun H' v' L'=>∃ en',L'=[en']∧MR (α:=GEntry) H' en' 92 v' r):=by
 unfold zAJ at h
 refine ConS.mk (N:=42) Tryz.func265 rfl rfl kr rfl<|Ws<|Wg<|A<|We<|Ws<|Wg<|M<|M<|B h fun i hi h=>?_
 replace h:=zOW h
 obtain ⟨H1,ar,au,R1⟩:=S.view_ (i:=0) rfl RM
 refine W.callF S rfl (zCs au (hG.post S.post) b ad R1 (fun hle=>F (Hp.le.trans ar hle)) hi) ?_
 rintro _ w1 H2 rfl S
 refine A<|We<|Ws<|Ws<|Wg<|M<|Le<|We ?_
 unfold delR at h
 rcases condE h with ⟨hc,h⟩ | ⟨hc,h⟩
 ·refine CT hc<|Ws<|Wg<|M<|A<|We ?_
  obtain rfl:=oi h
  refine WP.ret (OutS.one (L':=[en]) rfl (Hp.le.refl _) S rfl ?_)
  exact ⟨en,rfl,RM⟩
 refine CF hc<|Wk ?_
 rcases condE h with ⟨hb,h⟩ | ⟨hb,h⟩
 case inr=>cases h
 have hb:=of_decide_eq_true hb
 obtain ⟨c,rfl⟩:=Int.eq_ofNat_of_zero_le hb.1
 have ap:c<b.length:=by omega
 rcases RM with ⟨_,hnil,_⟩ | ⟨g,cap,cur0,cs0,rfl,rfl,hnc,hcm,hcs,htk,hC⟩
 ·subst hnil; exact absurd ap (Nat.not_lt_zero _)
 have D0:DelI Hs b cur0 (b.take c) (c+1):=DelI.start htk hC ap
 have hmax:b.length≤9223372036854775807:=by simp only [maxLen] at hcm; omega
 have ax:(b.take c).length=c:=by rw [List.length_take]; omega
 refine Ws<|Ws<|Wg<|M<|Lg<|A<|We ?_
 refine WP.cut (fun f w=>∃ (m:Nat) (cur:Array Value),f 0=.slice (some ⟨g,0,none⟩) b.length cap∧f 5=int r.length∧b.length≤m∧cur.size=cap*8∧DelI Hs b cur r m∧St w0 H0 w Hs (.obj g (.cells cur 92 (0,0)) :: L2)) ?_ ?_
 ·refine Wb ?_
  refine WP.loopM (delL b ad) (fun s f w=>∃ (m:Nat) (cur:Array Value),s.2=m∧f 0=.slice (some ⟨g,0,none⟩) b.length cap∧f 1=.func (.func kd) #[] cd.toArray∧f 5=int s.1.length∧f 6=int m∧cur.size=cap*8∧DelI Hs b cur s.1 m∧St w0 H0 w Hs (.obj g (.cells cur 92 (0,0)) :: L2)) _ _ h ?_ ?_
  ·refine ⟨c+1,cur0,rfl,rfl,rfl,?_,?_,hcs,D0,S⟩
   ·show int c=int ((b.take (Int.toNat c)).length:Nat)
    rw [Int.toNat_natCast,ax]
   show int (wr ((c:Int)+1))=int ((c+1:Nat):Int)
   rw [wr_eq ⟨by omega,by omega⟩]; rfl
  rintro ⟨K,mi⟩ f w ⟨m,cur,rfl,j,h1,k,h6,hsz,D,S⟩ y hy hyr
  unfold delL at hy
  refine Ws<|Ws<|Wg<|M' h6<|M' j<|Nv<|La<|We ?_
  rcases condE hy with ⟨hcm,hy⟩ | ⟨hcm,hy⟩
  ·refine CT hcm<|Wk ?_
   have hmn:m<b.length:=by have:=of_decide_eq_true hcm; omega
   refine B hy fun x hx hy=>?_
   obtain rfl:b[m]=x:=by
    unfold xnth at hx
    rw [if_pos (by omega)] at hx
    have:=(List.getElem?_eq_some_iff.1 hx).2
    exact this
   obtain ⟨_,aq,_,p,q,t,u,rfl,q1,q2,q3,q4⟩:=D.look hmn
   refine Ws<|Wb<|Ws<|Wg<|M' j<|M' h6 ?_
   refine WL.w (R.idxN (m:=(m:Int)) rfl rfl el60 ⟨by omega,by omega⟩) ?_
   refine WL.w (R.loadO (i:=0) (o:=m*8) (vs:=[p,q,t,(str b[m].fReason),u,(str b[m].fBody),(int b[m].fRequested),(int b[m].fReceived)]) S rfl rfl lay92 rfl aq) ?_
   refine W.alloc _ S zer92 ?_
   intro b7 w8 S
   refine W.store (i:=0) [p,q,t,(str b[m].fReason),u,(str b[m].fBody),(int b[m].fRequested),(int b[m].fReceived)] S rfl rfl rfl lay92 rfl (AllOne.all (l:=[p,q,t,(str b[m].fReason),u,(str b[m].fBody),(int b[m].fRequested),(int b[m].fReceived)]) (.cons (Sl.oneC q1) (.cons (Sl.oneC q2) (.cons (Sl.oneC q3) (.cons rfl (.cons (Sl.oneC q4) (.cons rfl (.cons rfl (.cons rfl .nil))))))))) (Nat.le_of_ble_eq_true rfl) rfl ?_
   intro w9 S
   refine We<|Ws<|Wg<|M' h1 ?_
   refine WL.w (R.loadBN (i:=0) (vs:=[p,q,t,(str b[m].fReason),u,(str b[m].fBody),(int b[m].fRequested),(int b[m].fReceived)]) S rfl rfl lay92 rfl rfl)<|B hy fun bb hbb hy=>?_
   refine W.callvF S rfl rfl (F (Hp.le.refl _) S.holds (hG.post S.post) b[m] q1 q2 q3 q4 bb hbb) ?_
   rintro _ a7 a8 rfl S
   refine No<|We ?_
   cases bb with
   | true =>
    refine CF rfl<|Wk<|Wg<|M' h6<|Lg<|A<|We ?_
    obtain rfl:=oi hy
    refine ⟨rfl,m+1,cur,rfl,j,h1,k,?_,hsz,D.skip hmn,S.drop _ (.cons _ (.refl _))⟩
    show int (wr ((m:Int)+1))=int ((m+1:Nat):Int)
    rw [wr_eq ⟨by omega,by omega⟩]; rfl
   | false =>
    refine CT rfl<|Ws<|Wg<|M' j<|M' k ?_
    refine WL.w (R.loadBN (i:=0) (vs:=[p,q,t,(str b[m].fReason),u,(str b[m].fBody),(int b[m].fRequested),(int b[m].fReceived)]) S rfl rfl lay92 rfl rfl) ?_
    have hKm:K.length<m:=D.1
    refine WL.w (R.idxN (m:=(K.length:Int)) rfl rfl el60 ⟨by omega,by omega⟩) ?_
    refine W.storeO (i:=1) (o:=K.length*8) S rfl rfl rfl lay92 rfl (AllOne.all (l:=[p,q,t,(str b[m].fReason),u,(str b[m].fBody),(int b[m].fRequested),(int b[m].fReceived)]) (.cons (Sl.oneC q1) (.cons (Sl.oneC q2) (.cons (Sl.oneC q3) (.cons rfl (.cons (Sl.oneC q4) (.cons rfl (.cons rfl (.cons rfl .nil))))))))) (by omega) ?_
    intro a9 cur' hcur S
    have hcur:cur'.toList=cur.toList.take (K.length*8)++[p,q,t,(str b[m].fReason),u,(str b[m].fBody),(int b[m].fRequested),(int b[m].fReceived)]++cur.toList.drop (K.length*8+8):=hcur
    have D2:=D.keep hmn aq hcur
    refine We<|Wg<|M' k<|Lg<|A<|We<|Wg<|M' h6<|Lg<|A<|We ?_
    obtain rfl:=oi hy
    refine ⟨rfl,m+1,cur',rfl,j,h1,?_,?_,?_,D2,S.drop _ (.cons _ (.refl _))⟩
    ·show int (wr ((K.length:Int)+1))=int (((K++[b[m]]).length:Nat):Int)
     rw [wr_eq ⟨by omega,by omega⟩,List.length_append]; rfl
    ·show int (wr ((m:Int)+1))=int ((m+1:Nat):Int)
     rw [wr_eq ⟨by omega,by omega⟩]; rfl
    rw [← Array.length_toList,hcur]
    simp only [List.length_append,List.length_take,List.length_drop,List.length_cons,List.length_nil]
    have hcl:cur.toList.length=cap*8:=hsz
    rw [hcl]
    omega
  refine CF hcm<|Wx ?_
  obtain rfl:=oi hy
  obtain rfl:=hyr
  have hcm:=of_decide_eq_false hcm
  exact ⟨m,cur,j,k,by omega,hsz,D,S⟩
 rintro f w ⟨m,cur,j,k,hm,hsz,D,S⟩
 have hKm:=D.1
 have hmp:=D.2.1
 obtain ⟨kc,hkc,hkC⟩:=D.front
 refine Ws<|Wg<|M' j<|M' k ?_
 refine WL.w (R.sliceLo rfl rfl el60 (by omega) (by omega))<|W.clearO (α:=GEntry) (i:=0) S el60 (fun z hz=>by rw [zer92] at hz; obtain rfl:=oi hz; rfl) rfl rfl (by show r.length*8+(b.length - r.length)*8≤cur.size; omega) ?_
 intro ba cur2 az a0 S
 refine We<|Ws<|Wg<|M' j<|M' k ?_
 refine WL.w (R.sliceHi rfl rfl el60 (by omega))<|A<|We ?_
 refine WP.ret (OutS.one (L':=[.obj g (.cells cur2 92 (0,0))]) rfl (Hp.le.refl _) S rfl ?_)
 exact ⟨_,rfl,.inr ⟨g,cap,cur2,kc,rfl,rfl,by omega,hcm,by rw [az]; exact hsz,a0.trans hkc,hkC⟩⟩
end Go.Proofs
