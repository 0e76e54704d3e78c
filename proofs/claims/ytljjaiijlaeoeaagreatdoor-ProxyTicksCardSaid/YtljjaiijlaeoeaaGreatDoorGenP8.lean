/- A part of the proof of laws of the seat: written by program over the translation. -/
import Derived.Test.YtljjaiijlaeoeaaGreatDoorEng38
import Derived.Test.YtljjaiijlaeoeaaGreatDoorEng36
import Derived.Test.YtljjaiijlaeoeaaGreatDoorGenP7
namespace Go.Proofs
set_option maxHeartbeats 4000000
set_option maxRecDepth 10000
open Go.Eng Go.Eng.Pure
set_option linter.unusedVariables false
theorem zIX {q:World} {H0:Hp} (hw:Holds q H0) (hG:Tryz.Gl q) (f:Int) (p:Int) (b:GControl) (c:GControl) {r:Bool} (h:zEz f p b c=some r) :
  Con Tryz.prog 161 [(int f),(int p),(agg [(boo b.fNoStore),(boo b.fNoCache),(boo b.fMustRevalidate),(boo b.fProxyRevalidate),(boo b.fPrivate),(boo b.fPublic),(boo b.fOnlyIfCached),(int b.fMaxAge),(int b.fSMaxAge),(int b.fMinFresh),(int b.fMaxStale)]),(agg [(boo c.fNoStore),(boo c.fNoCache),(boo c.fMustRevalidate),(boo c.fProxyRevalidate),(boo c.fPrivate),(boo c.fPublic),(boo c.fOnlyIfCached),(int c.fMaxAge),(int c.fSMaxAge),(int c.fMinFresh),(int c.fMaxStale)])] q H0 (fun H' v=>v=(boo r)):=by
 refine Con.mk (N:=83) Tryz.func161 rfl rfl kr rfl ?_
 have S:=St.start hw
 refine Ws<|Wg ?_
 refine W.box [(boo b.fNoStore),(boo b.fNoCache),(boo b.fMustRevalidate),(boo b.fProxyRevalidate),(boo b.fPrivate),(boo b.fPublic),(boo b.fOnlyIfCached),(int b.fMaxAge),(int b.fSMaxAge),(int b.fMinFresh),(int b.fMaxStale)] S rfl rfl ?_
 intro b1 w2 S
 refine W.box [(boo c.fNoStore),(boo c.fNoCache),(boo c.fMustRevalidate),(boo c.fProxyRevalidate),(boo c.fPrivate),(boo c.fPublic),(boo c.fOnlyIfCached),(int c.fMaxAge),(int c.fSMaxAge),(int c.fMinFresh),(int c.fMaxStale)] S rfl rfl ?_
 intro b3 w4 S
 refine A<|We<|Ws<|Wb<|Ws<|Wg<|M<|La<|M ?_
 refine WL.grp 3 [13,14] 15 (boo ((decide (f<0))||(decide (2147483647<f)))) ?_ ?_
 ·rcases boolE (decide (f<0)) with j | j
  ·refine Gn j<|Gn j<|Pt j ?_
   exact We ⟨(orT j),ag,rfl⟩
  refine Gy j<|M<|Gy j<|Lc<|Pf j ?_
  exact We ⟨(orF j),ag,rfl⟩
 intro us
 refine M ?_
 refine WL.grp 3 [17,18] 19 (boo (((decide (f<0))||(decide (2147483647<f)))||(decide (p<0)))) ?_ ?_
 ·rcases boolE ((decide (f<0))||(decide (2147483647<f))) with k | k
  ·refine Gn k<|Gn k<|Pt k ?_
   exact We ⟨(orT k),ag,rfl⟩
  refine Gy k<|M<|Gy k<|La<|Pf k ?_
  exact We ⟨(orF k),ag,rfl⟩
 intro us
 refine M ?_
 refine WL.grp 3 [21,22] 23 (boo ((((decide (f<0))||(decide (2147483647<f)))||(decide (p<0)))||(decide (2147483647<p)))) ?_ ?_
 ·rcases boolE (((decide (f<0))||(decide (2147483647<f)))||(decide (p<0))) with l | l
  ·refine Gn l<|Gn l<|Pt l ?_
   exact We ⟨(orT l),ag,rfl⟩
  refine Gy l<|M<|Gy l<|Lc<|Pf l ?_
  exact We ⟨(orF l),ag,rfl⟩
 intro us
 refine A<|We ?_
 rcases condE h with ⟨t,h⟩ | ⟨t,h⟩
 ·refine CT t ?_
  cases h
 refine CF t<|Ws<|Wg<|Fb ?_
 refine Lo 1 S<|M ?_
 refine WL.grp 3 [28,29] 30 (boo (b.fNoCache||c.fNoCache)) ?_ ?_
 ·rcases boolE b.fNoCache with o | o
  ·refine Gn o<|Gn o<|Pt o ?_
   exact We ⟨(orT o),ag,rfl⟩
  refine Gy o<|Fb<|Gy o ?_
  refine Lo 0 S<|Pf o ?_
  exact We ⟨(orF o),ag,rfl⟩
 intro us
 refine A<|We ?_
 rcases condE h with ⟨u,h⟩ | ⟨u,h⟩
 ·refine CT u ?_
  cases h
 refine CF u<|Ws<|Wg<|Fb ?_
 refine Lo 1 S<|Lf<|M ?_
 refine WL.grp 5 [36,37,38,39] 40 (boo ((b.fMaxAge !=(-1))&&(decide (b.fMaxAge<p)))) ?_ ?_
 ·rcases boolE (b.fMaxAge !=(-1)) with i | i
  ·refine Gy i<|M<|Gy i<|Fb<|Gy i ?_
   refine Lo 1 S<|Gy i<|Lc<|Pt i ?_
   exact We ⟨(andT i),ag,rfl⟩
  refine Gn i<|Gn i<|Gn i<|Gn i<|Pf i ?_
  exact We ⟨(andF i),ag,rfl⟩
 intro us
 refine A<|We ?_
 rcases condE h with ⟨x,h⟩ | ⟨x,h⟩
 ·refine CT x ?_
  cases h
 refine CF x<|Ws<|Wg<|M<|M<|La<|A<|We ?_
 rcases condE h with ⟨z,h⟩ | ⟨z,h⟩
 ·refine CT z<|Ws<|Wg<|Fb ?_
  refine Lo 1 S<|Le<|M ?_
  refine WL.grp 7 [49,50,51,52,53,54] 55 (boo ((b.fMinFresh==(-1))||(decide (b.fMinFresh≤(wr (f - p)))))) ?_ ?_
  ·rcases boolE (b.fMinFresh==(-1)) with d | d
   ·refine Gn d<|Gn d<|Gn d<|Gn d<|Gn d<|Gn d<|Pt d ?_
    exact We ⟨(orT d),ag,rfl⟩
   refine Gy d<|M<|Gy d<|M<|Gy d<|Lh<|Gy d<|Fb<|Gy d ?_
   refine Lo 1 S<|Gy d<|Ld ?_
   refine Pf d ?_
   exact We ⟨(orF d),ag,rfl⟩
  intro us
  refine A<|We ?_
  obtain rfl:=oi h
  refine WP.ret (Out.one rfl S rfl ?_)
  exact rfl
 refine CF z ?_
 cases h
theorem zJc {t:World} {j:Hp} (hw:Holds t j) (hG:Tryz.Gl t) (b:GEntry) (f:GRequest) (u:Int) {l:Value} {o:Value} {p:Value} {k:Value} {q:Value} (ab:Sl (α:=(List Str)) j l b.fKeys) (ac:Sl (α:=Str) j o b.fVary) (ad:Sl (α:=Str) j p b.fSnapshot) (x:Sl (α:=GField) j k b.fFields) (ae:Sl (α:=GField) j q f.fFields) {r:Bool} (h:zEn b f u=some r) :
  Con Tryz.prog 96 [(agg [l,o,p,(str b.fReason),k,(str b.fBody),(int b.fRequested),(int b.fReceived)]),(agg [(str f.fMethod),(str f.fTarget),(int f.fMinor),q,(str f.fBody)]),(int u)] t j (fun H' v=>v=(boo r)):=by
 refine Con.mk (N:=20) Tryz.func96 rfl rfl kr rfl ?_
 have S:=St.start hw
 refine Ws<|Wg ?_
 refine W.box [l,o,p,(str b.fReason),k,(str b.fBody),(int b.fRequested),(int b.fReceived)] S rfl rfl ?_
 intro b1 w2 S
 refine W.box [(str f.fMethod),(str f.fTarget),(int f.fMinor),q,(str f.fBody)] S rfl rfl ?_
 intro b3 w4 S
 refine A<|We<|Ws<|WP.quiet S kr kr<|QFb ?_
 refine WQ.val (fun w hw=>by obtain ⟨_,hq,S⟩:=hw; exact (R.loadB (i:=1) (v:=k) S rfl rfl lay22 rfl))<|B h fun z af h=>WQ.call (v:=int z) rfl (fun w H' hq S=>zEg S.holds (hG.post S.post) b.fFields (Sl.mono x hq) af) ?_
 refine WQ.val (fun w hw=>by obtain ⟨_,hq,S⟩:=hw; exact (R.loadBN (i:=1) (vs:=[l,o,p,(str b.fReason),k,(str b.fBody),(int b.fRequested),(int b.fReceived)]) S rfl rfl lay92 rfl rfl))<|QM<|B h fun aa ah h=>WQ.call (v:=int aa) rfl (fun w H' hq S=>zI0 S.holds (hG.post S.post) b u (Sl.mono ab hq) (Sl.mono ac hq) (Sl.mono ad hq) (Sl.mono x hq) ah)<|QFb ?_
 refine WQ.val (fun w hw=>by obtain ⟨_,hq,S⟩:=hw; exact (R.loadB (i:=0) (v:=q) S rfl rfl lay22 rfl))<|B h fun c ai h=>WQ.call (v:=agg [(boo c.fNoStore),(boo c.fNoCache),(boo c.fMustRevalidate),(boo c.fProxyRevalidate),(boo c.fPrivate),(boo c.fPublic),(boo c.fOnlyIfCached),(int c.fMaxAge),(int c.fSMaxAge),(int c.fMinFresh),(int c.fMaxStale)]) rfl (fun w H' hq S=>zB3 S.holds (hG.post S.post) f.fFields (Sl.mono ae hq) ai)<|QFb ?_
 refine WQ.val (fun w hw=>by obtain ⟨_,hq,S⟩:=hw; exact (R.loadB (i:=1) (v:=k) S rfl rfl lay22 rfl))<|B h fun d aj h=>WQ.call (v:=agg [(boo d.fNoStore),(boo d.fNoCache),(boo d.fMustRevalidate),(boo d.fProxyRevalidate),(boo d.fPrivate),(boo d.fPublic),(boo d.fOnlyIfCached),(int d.fMaxAge),(int d.fSMaxAge),(int d.fMinFresh),(int d.fMaxStale)]) rfl (fun w H' hq S=>zAw S.holds (hG.post S.post) b.fFields (Sl.mono x hq) aj)<|B h fun ak al h=>WQ.call (v:=boo ak) rfl (fun w H' hq S=>zIX S.holds (hG.post S.post) z aa c d al)<|QA<|WQ.nil ?_
 intro w5 H6 au S
 obtain rfl:=oi h
 refine WP.ret (Out.one rfl S rfl ?_)
 exact rfl
theorem zC7 {w0:World} {u:Hp} (hw:Holds w0 u) (hG:Tryz.Gl w0) (q:GTable) (c:GRequest) (aj:Int) (d:GConfig) {ad:Value} {ab:Value} {ae:Value} (af:Sl (α:=GAxis) u ad q.fAxes) (z:Sl (α:=GEntry) u ab q.fEntries) (x:Sl (α:=GField) u ae c.fFields) {r:GDecision} (h:zDC q c aj d=some r) :
  Con Tryz.prog 52 [(agg [ad,ab]),(agg [(str c.fMethod),(str c.fTarget),(int c.fMinor),ae,(str c.fBody)]),(int aj),(agg [(str d.fName),(int d.fBytes),(int d.fVariants),(int d.fTables),(boo d.fStrict),(boo d.fRefuse)])] w0 u (fun H' v=>v=(agg [(int r.fKind),(int r.fIndex)])):=by
 refine Con.mk (N:=87) Tryz.func52 rfl rfl kr rfl ?_
 have S:=St.start hw
 refine Ws<|Wg ?_
 refine W.box [ad,ab] S rfl rfl ?_
 intro b1 w2 S
 refine W.box [(str c.fMethod),(str c.fTarget),(int c.fMinor),ae,(str c.fBody)] S rfl rfl ?_
 intro b3 w4 S
 refine W.box [(str d.fName),(int d.fBytes),(int d.fVariants),(int d.fTables),(boo d.fStrict),(boo d.fRefuse)] S rfl rfl ?_
 intro b5 w6 S
 refine W.alloc [(int 0),(int 0)] S zJ6 ?_
 intro b7 w8 S
 refine We<|Ws<|Wg ?_
 refine WL.w (R.build [(0,(int 3)),(1,(int (-1)))] [(int 3),(int (-1))] bp108 zJ6 rfl rfl) ?_
 refine W.alloc [(int 0),(int 0)] S zJ6 ?_
 intro b9 bx S
 refine W.store (i:=0) [(int 3),(int (-1))] S rfl rfl rfl zH7 rfl rfl (Nat.le_of_ble_eq_true rfl) rfl ?_
 intro bz S
 refine We<|Ws<|Ws<|Wg<|Fb ?_
 refine Lo 3 S<|Nb<|M ?_
 refine WL.grp 4 [19,20,21] 22 (boo ((c.fMethod !=[71,69,84])&&(c.fMethod !=[72,69,65,68]))) ?_ ?_
 ·rcases boolE (c.fMethod !=[71,69,84]) with l | l
  ·refine Gy l<|Fb<|Gy l ?_
   refine Lo 3 S<|Gy l<|Nb<|Pt l ?_
   exact We ⟨(andT l),ag,rfl⟩
  refine Gn l<|Gn l<|Gn l<|Pf l ?_
  exact We ⟨(andF l),ag,rfl⟩
 intro us
 refine We ?_
 rcases condE h with ⟨ak,h⟩ | ⟨ak,h⟩
 ·refine CT ak ?_
  cases h
 refine CF ak<|Wk<|Ws<|Wg ?_
 refine WL.w (R.loadBN (i:=4) (vs:=[ad,ab]) S rfl rfl lay62 rfl rfl)<|Fb ?_
 refine Lo 3 S<|Fb ?_
 refine Lo 2 S<|B h fun t a2 h=>W.call S rfl (zKY S.holds (hG.post S.post) q c.fFields d.fStrict af z x a2) ?_
 rintro b0 b2 b4 al S rfl
 have af:=Sl.mono af al
 have z:=Sl.mono z al
 have x:=Sl.mono x al
 refine M ?_
 refine Ex ?_
 refine Ex<|A<|A<|We<|Ws<|Ws<|Wg<|Fb ?_
 refine Lo 4 S<|Nq af ?_
 refine Lc<|M ?_
 refine WL.grp 3 [38,39] 40 (boo ((decide (0<(q.fAxes.length:Int)))&&(!t.2))) ?_ ?_
 ·rcases boolE (decide (0<(q.fAxes.length:Int))) with o | o
  ·refine Gy o<|M<|Gy o<|No<|Pt o ?_
   exact We ⟨(andT o),ag,rfl⟩
  refine Gn o<|Gn o<|Pf o ?_
  exact We ⟨(andF o),ag,rfl⟩
 intro us
 refine M ?_
 refine WL.grp 3 [42,43] 44 (boo (((decide (0<(q.fAxes.length:Int)))&&(!t.2))&&d.fRefuse)) ?_ ?_
 ·rcases boolE ((decide (0<(q.fAxes.length:Int)))&&(!t.2)) with p | p
  ·refine Gy p<|Fb<|Gy p ?_
   refine Lo 2 S<|Pt p ?_
   exact We ⟨(andT p),ag,rfl⟩
  refine Gn p<|Gn p<|Pf p ?_
  exact We ⟨(andF p),ag,rfl⟩
 intro us
 refine We ?_
 rcases condE h with ⟨am,h⟩ | ⟨am,h⟩
 ·refine CT am ?_
  cases h
 refine CF am<|Wk<|Ws<|Wg<|Fb ?_
 refine Lo 3 S<|B h fun b a3 h=>W.call S rfl (zB3 S.holds (hG.post S.post) c.fFields x a3) ?_
 rintro b6 b8 a4 ax S rfl
 have z:=Sl.mono z ax
 have x:=Sl.mono x ax
 refine W.alloc [(boo false),(boo false),(boo false),(boo false),(boo false),(boo false),(boo false),(int 0),(int 0),(int 0),(int 0)] S zJ5 ?_
 intro ay ca S
 refine W.store (i:=0) [(boo b.fNoStore),(boo b.fNoCache),(boo b.fMustRevalidate),(boo b.fProxyRevalidate),(boo b.fPrivate),(boo b.fPublic),(boo b.fOnlyIfCached),(int b.fMaxAge),(int b.fSMaxAge),(int b.fMinFresh),(int b.fMaxStale)] S rfl rfl rfl zHY rfl rfl (Nat.le_of_ble_eq_true rfl) rfl ?_
 intro cb S
 refine We<|Ws<|Ws<|Wg<|Fb ?_
 refine Lo 0 S<|We ?_
 rcases condE h with ⟨an,h⟩ | ⟨an,h⟩
 ·refine CT an ?_
  cases h
 refine CF an<|Wk<|Ws<|Wg<|A<|We<|Ws<|Ws<|Wg<|M<|Ld<|We<|B h fun a5 j h=>WP.cut (fun f w=>∃ (ao:Hp),f 8=(ptr b7 0)∧f 9=(ptr b9 0)∧f 10=(int t.1)∧f 12=(ptr ay 0)∧f 13=(int a5)∧St w0 u w ao [.box ay 164 [(boo b.fNoStore),(boo b.fNoCache),(boo b.fMustRevalidate),(boo b.fProxyRevalidate),(boo b.fPrivate),(boo b.fPublic),(boo b.fOnlyIfCached),(int b.fMaxAge),(int b.fSMaxAge),(int b.fMinFresh),(int b.fMaxStale)],.box b9 108 [(int 3),(int (-1))],.box b7 108 [(int 0),(int 0)]]) ?_ ?_
 ·rcases condE j with ⟨ap,j⟩ | ⟨ap,j⟩
  ·refine CT ap<|Ws<|Wg<|A<|We<|Ws<|WP.quiet S kr kr<|QFb ?_
   refine WQ.val (fun w hw=>by obtain ⟨_,hq,S⟩:=hw; exact (R.loadB (i:=5) (v:=ab) S rfl rfl lay60 rfl))<|QM<|B j fun ac a6 j=>WQ.idx (α:=GEntry) z rfl rfl el60 a6 ?_
   rintro cc _ a7 ⟨a8,a9,ba,bb,rfl,bc,bd,be,bf⟩
   refine WQ.val (fun w hw=>by obtain ⟨_,hq,S⟩:=hw; exact (R.loadHN (vs:=[a8,a9,ba,(str ac.fReason),bb,(str ac.fBody),(int ac.fRequested),(int ac.fReceived)]) S rfl (At.mono a7 hq (by simp)) lay92 rfl rfl)) ?_
   refine WQ.val (fun w hw=>by obtain ⟨_,hq,S⟩:=hw; exact (R.loadBN (i:=4) (vs:=[(str c.fMethod),(str c.fTarget),(int c.fMinor),ae,(str c.fBody)]) S rfl rfl lay94 rfl rfl))<|QM<|B j fun bg bh j=>WQ.call (v:=boo bg) rfl (fun w H' hq S=>zJc S.holds (hG.post S.post) ac c aj (Sl.mono bc hq) (Sl.mono bd hq) (Sl.mono be hq) (Sl.mono bf hq) (Sl.mono x hq) bh)<|WQ.nil ?_
   intro cd bi ce S
   rcases condE j with ⟨aq,j⟩ | ⟨aq,j⟩
   ·refine CT aq<|Wg<|A<|We ?_
    obtain rfl:=oi j
    exact ⟨bi,rfl,rfl,rfl,rfl,rfl,(S.drop _ (.cons_cons _ (.cons_cons _ (.cons_cons _ (.cons _ (.cons _ (.cons _ .slnil)))))))⟩
   refine CF aq ?_
   cases j
  refine CF ap<|Wk ?_
  obtain rfl:=oi j
  exact ⟨a4,rfl,rfl,rfl,rfl,rfl,(S.drop _ (.cons_cons _ (.cons_cons _ (.cons_cons _ (.cons _ (.cons _ (.cons _ .slnil)))))))⟩
 rintro f w ⟨ao,ar,bj,bk,bn,bo,S⟩
 refine Ws<|Ws<|Wg<|M' bo<|We<|B h fun az k h=>WP.cut (fun f w=>match az with | .inl _=>∃ (a0:Hp),f 8=(ptr b7 0)∧f 9=(ptr b9 0)∧St w0 u w a0 [.box b9 108 [(int 3),(int (-1))],.box b7 108 [(int 0),(int 0)]] | .inr _=>False) ?_ ?_
 ·refine Wb<|Ws<|Wb<|Ws<|Wb<|Ws<|Wb<|Ws<|Ws<|Ws<|Wg<|Le ?_
  refine A<|We ?_
  rcases condE k with ⟨au,k⟩ | ⟨au,k⟩
  ·refine CT au<|Wx<|Ws<|Ws<|Wg<|M' bk ?_
   refine WL.w (R.build [(0,(int 1)),(1,(int t.1))] [(int 1),(int t.1)] bp108 zJ6 rfl rfl) ?_
   refine W.store (i:=2) [(int 1),(int t.1)] S ar rfl rfl zH7 rfl rfl (Nat.le_of_ble_eq_true rfl) rfl ?_
   intro cf S
   refine We ?_
   obtain rfl:=oi k
   obtain rfl:=oi h
   refine WP.ret (Out.one rfl S (Res.cellB (i:=2) (cs:=[(int 1),(int t.1)]) S ar rfl zH7 rfl rfl) ?_)
   exact rfl
  refine CF au<|Wk<|Ws<|Wg<|Le<|A<|We ?_
  rcases condE k with ⟨av,k⟩ | ⟨av,k⟩
  ·refine CT av ?_
   cases k
  refine CF av<|Wk<|Wx<|Ws<|Ws<|Wg<|Fb' bn ?_
  refine Lo 0 S<|We ?_
  rcases condE k with ⟨aw,k⟩ | ⟨aw,k⟩
  ·refine CT aw ?_
   cases k
  refine CF aw<|Wk<|Wx ?_
  obtain rfl:=oi k
  exact ⟨ao,ar,bj,(S.drop _ (.cons _ (.cons_cons _ (.cons_cons _ .slnil))))⟩
 intro f w hM
 rcases az with _ | e
 ·obtain ⟨a0,a1,bp,S⟩:=hM
  refine Ws<|Wg ?_
  refine WL.w (R.loadBN (i:=0) (vs:=[(int 3),(int (-1))]) S bp rfl zH7 rfl rfl) ?_
  refine W.store (i:=1) [(int 3),(int (-1))] S a1 rfl rfl zH7 rfl rfl (Nat.le_of_ble_eq_true rfl) rfl ?_
  intro cg S
  refine We ?_
  obtain rfl:=oi h
  refine WP.ret (Out.one rfl S (Res.cellB (i:=1) (cs:=[(int 3),(int (-1))]) S a1 rfl zH7 rfl rfl) ?_)
  exact rfl
 exact hM.elim
theorem zNM {b:World} {c:Hp} (hw:Holds b c) (hG:Tryz.Gl b) (d:Str) (f:Str) {i:Addr} (j:At c i [(str f)]) {r:Bool} (h:zNL d f=some r) :
  Con Tryz.prog 165 [(str d),(.pointer (some i))] b c (fun H' v=>v=(boo r)):=by
 refine Con.mk (N:=7) Tryz.func165 rfl rfl kr rfl ?_
 have S:=St.start hw
 refine Ws<|Wg<|A<|We<|Ws<|Wg<|M ?_
 refine Lq S j<|Na<|A<|We ?_
 obtain rfl:=oi h
 refine WP.ret (Out.one rfl S rfl ?_)
 exact rfl
theorem zAB {k ws:World} {l Hs:Hp} {p:List Ent} (hG:Tryz.Gl k) (b:(List Str)) (q:(Str→Option Bool)) {v:Value} {en:Ent} {kd:FuncId} {cd:List Value} (S:St k l ws Hs (en :: p)) (RM:MR (α:=Str) Hs en 9 v b)
  (F:∀ {w:World} {H:Hp},Hs.le H→Holds w H→Tryz.Gl w→∀ (x0:Str) (rr:Bool),q x0=some rr→Con Tryz.prog kd ([(str x0)]++cd) w H (fun H' v=>v=(boo rr)))
  {r:List Str} (h:zAK b q=some r) :
  ConS Tryz.prog 164 [v,(.func (.func kd) #[] cd.toArray)] k l ws Hs p (fun H' v' L'=>∃ en',L'=[en']∧MR (α:=Str) H' en' 9 v' r):=by
 unfold zAK at h
 refine ConS.mk (N:=42) Tryz.func164 rfl rfl kr rfl<|Ws<|Wg<|A<|We<|Ws<|Wg<|M<|M<|B h fun i hi h=>?_
 replace h:=zOW h
 obtain ⟨H1,ad,ae,R1⟩:=S.view_ (i:=0) rfl RM
 refine W.callF S rfl (zBf ae (hG.post S.post) b q R1 (fun hle=>F (Hp.le.trans ad hle)) hi) ?_
 rintro _ w1 H2 rfl S
 refine A<|We<|Ws<|Ws<|Wg<|M<|Le<|We ?_
 unfold delR at h
 rcases condE h with ⟨hc,h⟩ | ⟨hc,h⟩
 ·refine CT hc<|Ws<|Wg<|M<|A<|We ?_
  obtain rfl:=oi h
  refine WP.ret (OutS.one (L':=[en]) rfl (Hp.le.refl _) S rfl ?_)
  exact ⟨en,rfl,RM⟩
 refine CF hc<|Wk ?_
 rcases condE h with ⟨hb,h⟩ | ⟨hb,h⟩
 case inr=>cases h
 have hb:=of_decide_eq_true hb
 obtain ⟨c,rfl⟩:=Int.eq_ofNat_of_zero_le hb.1
 have ab:c<b.length:=by omega
 rcases RM with ⟨_,hnil,_⟩ | ⟨g,cap,cur0,cs0,rfl,rfl,hnc,hcm,hcs,htk,hC⟩
 ·subst hnil; exact absurd ab (Nat.not_lt_zero _)
 have D0:DelI Hs b cur0 (b.take c) (c+1):=DelI.start htk hC ab
 have hmax:b.length≤9223372036854775807:=by simp only [maxLen] at hcm; omega
 have ai:(b.take c).length=c:=by rw [List.length_take]; omega
 refine Ws<|Ws<|Wg<|M<|Lg<|A<|We ?_
 refine WP.cut (fun f w=>∃ (m:Nat) (cur:Array Value),f 0=.slice (some ⟨g,0,none⟩) b.length cap∧f 5=int r.length∧b.length≤m∧cur.size=cap*1∧DelI Hs b cur r m∧St k l w Hs (.obj g (.cells cur 9 (0,0)) :: p)) ?_ ?_
 ·refine Wb ?_
  refine WP.loopM (delL b q) (fun s f w=>∃ (m:Nat) (cur:Array Value),s.2=m∧f 0=.slice (some ⟨g,0,none⟩) b.length cap∧f 1=.func (.func kd) #[] cd.toArray∧f 5=int s.1.length∧f 6=int m∧cur.size=cap*1∧DelI Hs b cur s.1 m∧St k l w Hs (.obj g (.cells cur 9 (0,0)) :: p)) _ _ h ?_ ?_
  ·refine ⟨c+1,cur0,rfl,rfl,rfl,?_,?_,hcs,D0,S⟩
   ·show int c=int ((b.take (Int.toNat c)).length:Nat)
    rw [Int.toNat_natCast,ai]
   show int (wr ((c:Int)+1))=int ((c+1:Nat):Int)
   rw [wr_eq ⟨by omega,by omega⟩]; rfl
  rintro ⟨K,mi⟩ f w ⟨m,cur,rfl,d,u,j,t,hsz,D,S⟩ y hy hyr
  unfold delL at hy
  refine Ws<|Ws<|Wg<|M' t<|M' d<|Nv<|La<|We ?_
  rcases condE hy with ⟨hcm,hy⟩ | ⟨hcm,hy⟩
  ·refine CT hcm<|Wk ?_
   have hmn:m<b.length:=by have:=of_decide_eq_true hcm; omega
   refine B hy fun x hx hy=>?_
   obtain rfl:b[m]=x:=by
    unfold xnth at hx
    rw [if_pos (by omega)] at hx
    have:=(List.getElem?_eq_some_iff.1 hx).2
    exact this
   obtain ⟨_,ac,_,rfl⟩:=D.look hmn
   refine Ws<|Wb<|Ws<|Wg<|M' d<|M' t ?_
   refine WL.w (R.idxN (m:=(m:Int)) rfl rfl el45 ⟨by omega,by omega⟩) ?_
   refine WL.w (R.loadO1 (i:=0) (o:=m*1) (v:=str b[m]) S rfl rfl lay9 ac)<|A<|We<|Ws<|Wg ?_
   refine M' u<|M<|B hy fun bb hbb hy=>?_
   refine W.callvF S rfl rfl (F (Hp.le.refl _) S.holds (hG.post S.post) b[m] bb hbb) ?_
   rintro _ ap aq rfl S
   refine No<|We ?_
   cases bb with
   | true =>
    refine CF rfl<|Wk<|Wg<|M' t<|Lg<|A<|We ?_
    obtain rfl:=oi hy
    refine ⟨rfl,m+1,cur,rfl,d,u,j,?_,hsz,D.skip hmn,S⟩
    show int (wr ((m:Int)+1))=int ((m+1:Nat):Int)
    rw [wr_eq ⟨by omega,by omega⟩]; rfl
   | false =>
    refine CT rfl<|Ws<|Wg<|M' d<|M' j<|M ?_
    have hKm:K.length<m:=D.1
    refine WL.w (R.idxN (m:=(K.length:Int)) rfl rfl el45 ⟨by omega,by omega⟩) ?_
    refine W.storeO (i:=0) (o:=K.length*1) S rfl rfl rfl lay9 rfl rfl (by omega) ?_
    intro ar cur' hcur S
    have hcur:cur'.toList=cur.toList.take (K.length*1)++[str b[m]]++cur.toList.drop (K.length*1+1):=hcur
    have D2:=D.keep hmn ac hcur
    refine We<|Wg<|M' j<|Lg<|A<|We<|Wg<|M' t<|Lg<|A<|We ?_
    obtain rfl:=oi hy
    refine ⟨rfl,m+1,cur',rfl,d,u,?_,?_,?_,D2,S⟩
    ·show int (wr ((K.length:Int)+1))=int (((K++[b[m]]).length:Nat):Int)
     rw [wr_eq ⟨by omega,by omega⟩,List.length_append]; rfl
    ·show int (wr ((m:Int)+1))=int ((m+1:Nat):Int)
     rw [wr_eq ⟨by omega,by omega⟩]; rfl
    rw [← Array.length_toList,hcur]
    simp only [List.length_append,List.length_take,List.length_drop,List.length_cons,List.length_nil]
    have hcl:cur.toList.length=cap*1:=hsz
    rw [hcl]
    omega
  refine CF hcm<|Wx ?_
  obtain rfl:=oi hy
  obtain rfl:=hyr
  have hcm:=of_decide_eq_false hcm
  exact ⟨m,cur,d,j,by omega,hsz,D,S⟩
 rintro f w ⟨m,cur,d,j,hm,hsz,D,S⟩
 have hKm:=D.1
 have hmp:=D.2.1
 obtain ⟨kc,hkc,hkC⟩:=D.front
 refine Ws<|Wg<|M' d<|M' j ?_
 refine WL.w (R.sliceLo rfl rfl el45 (by omega) (by omega))<|W.clearO (α:=Str) (i:=0) S el45 (fun z hz=>by rw [zer9] at hz; obtain rfl:=oi hz; rfl) rfl rfl (by show r.length*1+(b.length - r.length)*1≤cur.size; omega) ?_
 intro au cur2 ak al S
 refine We<|Ws<|Wg<|M' d<|M' j ?_
 refine WL.w (R.sliceHi rfl rfl el45 (by omega))<|A<|We ?_
 refine WP.ret (OutS.one (L':=[.obj g (.cells cur2 9 (0,0))]) rfl (Hp.le.refl _) S rfl ?_)
 exact ⟨_,rfl,.inr ⟨g,cap,cur2,kc,rfl,rfl,by omega,hcm,by rw [ak]; exact hsz,al.trans hkc,hkC⟩⟩
theorem zNr {d:World} {c:Hp} (hw:Holds d c) (hG:Tryz.Gl d) (b:GField) (j:(GField→Option Bool)) {k:Addr} {kc_x0:FuncId} {cc_x0:List Value} (l:At c k [(.func (.func kc_x0) #[] cc_x0.toArray)]) (Fc_x0:∀ {w:World} {H:Hp},c.le H→Holds w H→Tryz.Gl w→∀ (f:GField) (rr:Bool),j f=some rr→Con Tryz.prog kc_x0 ([(agg [(str f.fName),(str f.fValue)])]++cc_x0) w H (fun H' v=>v=(boo rr))) {r:Bool} (h:zNg b j=some r) :
  Con Tryz.prog 234 [(agg [(str b.fName),(str b.fValue)]),(.pointer (some k))] d c (fun H' v=>v=(boo r)):=by
 refine Con.mk (N:=8) Tryz.func234 rfl rfl kr rfl ?_
 have S:=St.start hw
 refine Ws<|Wg ?_
 refine W.box [(str b.fName),(str b.fValue)] S rfl rfl ?_
 intro p q S
 refine A<|We<|Ws<|Wg ?_
 refine Lq S l ?_
 refine WL.w (R.loadBN (i:=0) (vs:=[(str b.fName),(str b.fValue)]) S rfl rfl lay68 rfl rfl)<|B h fun t o h=>W.callv S rfl rfl (Fc_x0 (S.post.le) S.holds (hG.post S.post) b _ o) ?_
 rintro u x z aa S rfl
 refine No<|A<|We ?_
 obtain rfl:=oi h
 refine WP.ret (Out.one rfl S rfl ?_)
 exact rfl
theorem zOM {c:World} {d:Hp} (hw:Holds c d) (hG:Tryz.Gl c) (f:(List GField)) (j:Str) {l:Value} (b:Sl (α:=GField) d l f) {r:(List GField)} (h:zNk f j=some r) :
  Con Tryz.prog 168 [l,(str j)] c d (fun H' v=>Sl (α:=GField) H' v r):=by
 refine Con.mk (N:=11) Tryz.func168 rfl rfl kr rfl ?_
 have S:=St.start hw
 refine Ws<|Wg<|A<|We<|Ws<|Wg<|M<|B h fun o u h=>W.call S rfl (zNV S.holds (hG.post S.post) j u) ?_
 rintro v2 w3 H4 x S ⟨kr1,cr1,rfl,Fr1⟩
 have b:=Sl.mono b x
 refine W.alloc [.nilFunc] S zMd ?_
 intro p w7 S
 refine W.store (i:=0) [(.func (.func kr1) #[] cr1.toArray)] S rfl rfl rfl zLx rfl rfl (Nat.le_of_ble_eq_true rfl) rfl ?_
 intro w8 S
 refine We<|Ws<|Wg<|M ?_
 obtain ⟨q,t,z,_,S⟩:=S.settle (i:=0) rfl
 replace S:St c d _ q []:=S
 have aa:At q ⟨p,0,none⟩ [(.func (.func kr1) #[] cr1.toArray)]:=⟨_,_,rfl,z,[],by simp⟩
 have b:=Sl.mono b t
 refine WL.w (R.mkFunc (vs:=[(.pointer (some ⟨p,0,none⟩))]) rfl)<|B h fun ak ab h=>W.call S rfl (zNl S.holds (hG.post S.post) f (fun k=>zNg k o) b (fun hle hw hG k r h=>zNr hw hG k o (At.mono aa hle (by simp)) (fun ac=>Fr1 (Hp.le.trans (Hp.le.trans t hle) ac)) h) ab) ?_
 rintro al am an ao S ad
 refine A<|We ?_
 obtain rfl:=oi h
 refine WP.ret (Out.one rfl S rfl ?_)
 exact ad
theorem zNq {b:World} {d:Hp} (hw:Holds b d) (hG:Tryz.Gl b) (c:Int) {r:Str} (h:zNt c=some r) :
  Con Tryz.prog 103 [(int c)] b d (fun H' v=>v=(str r)):=by
 refine Con.mk (N:=5) Tryz.func103 rfl rfl kr rfl ?_
 have S:=St.start hw
 refine Ws<|Wg<|A<|We<|Ws<|Wg<|M<|B h fun i f h=>W.call S rfl (zEJ S.holds (hG.post S.post) c f) ?_
 rintro j k l o S rfl
 refine A<|We ?_
 obtain rfl:=oi h
 refine WP.ret (Out.one rfl S rfl ?_)
 exact rfl
theorem zNO {d:World} {f:Hp} (hw:Holds d f) (hG:Tryz.Gl d) (k:(List GField)) (j:Int) (l:Str) {o:Value} (p:Sl (α:=GField) f o k) {r:(List GField)} (h:zOR k j l=some r) :
  Con Tryz.prog 122 [o,(int j),(str l)] d f (fun H' v=>Sl (α:=GField) H' v r):=by
 refine Con.mk (N:=20) Tryz.func122 rfl rfl kr rfl ?_
 have S:=St.start hw
 refine Ws<|Wg<|A<|We<|Ws<|Wg<|M ?_
 have S:=S.addNil 68 2
 refine B h fun l1 q h=>W.app (α:=GField) (i:=0) S el22 rfl rfl rfl Sl.nil p q ?_
 intro v2 w3 H4 ak b S
 refine A<|We<|Ws<|Wg<|M<|M<|B h fun r7 t h=>W.call S rfl (zNq S.holds (hG.post S.post) j t) ?_
 rintro v8 w9 ao u S rfl
 have b:=Sl.mono b u
 refine B h fun ap x h=>Je x<|B h fun aq z h=>Je z<|M<|B h fun c aa h=>Je aa ?_
 refine WL.w (R.build [(0,(str [86,105,97])),(1,(str c))] [(str [86,105,97]),(str c)] bp68 zer68 rfl rfl)<|W.bslice (α:=GField) [(agg [(str [86,105,97]),(str c)])] ([(⟨[86,105,97],c⟩:GField)]:List GField) S el22 rfl rfl rfl (by decide) (Go.Eng.encS ⟨rfl,rfl⟩ enc0) ?_
 intro ar au av ab ac S
 have b:=Sl.mono b ab
 refine B h fun aw ad h=>W.app (α:=GField) (i:=1) S el22 rfl rfl rfl b ac ad ?_
 intro ax ay az a0 ae S
 refine A<|We ?_
 obtain rfl:=oi h
 refine WP.ret (Out.one rfl S rfl ?_)
 exact ae
theorem zOL {k ws:World} {o Hs:Hp} {p:List Ent} (hG:Tryz.Gl k) (z:(List GField)) (ae:(GField→Option Bool)) {aa:Value} {kp_keep:FuncId} {cp_keep:List Value} (S:St k o ws Hs (p)) (c:Sl (α:=GField) Hs aa z) (Fp_keep:∀ {w:World} {H:Hp},Hs.le H→Holds w H→Tryz.Gl w→∀ (x0:GField) (rr:Bool),ae x0=some rr→Con Tryz.prog kp_keep ([(agg [(str x0.fName),(str x0.fValue)])]++cp_keep) w H (fun H' v=>v=(boo rr))) {r:(List GField)} (h:zNd z ae=some r) :
  ConS Tryz.prog 171 [aa,(.func (.func kp_keep) #[] cp_keep.toArray)] k o ws Hs p (fun H' v L'=>∃ u1:Value,L'=[.row u1 68 2 r.length]∧v=u1∧Sl (α:=GField) H' u1 r):=by
 refine ConS.mk (N:=23) Tryz.func171 rfl rfl kr rfl<|Ws<|Wg<|A<|We<|Ws<|Wg<|A<|We<|Ws<|Ws<|Wg ?_
 refine M<|Nq c<|M<|We ?_
 have S:=S.addNil 68 2
 refine B h fun q au h=>WP.cut (fun f w=>∃ (t:Hp) (l:Value),f 5=l∧Sl (α:=GField) t l q∧Hp.le Hs t∧St k o w t (.row l 68 2 q.length :: p)) ?_ ?_
 ·refine Wb ?_
  refine WP.loopM (zNm z ae) (fun s f w=>match s with | (ai,ar)=>∃ (u:Hp) (x:Value),f 1=(.func (.func kp_keep) #[] cp_keep.toArray)∧f 5=x∧f 8=aa∧f 9=(int (z.length:Int))∧f 10=(int ar)∧Sl (α:=GField) u x ai∧Sl (α:=GField) u aa z∧Hp.le Hs u∧St k o w u (.row x 68 2 ai.length :: p)) (([]:List GField),0) q (lfW au) ?_ ?_
  ·exact ⟨Hs,.slice none 0 0,rfl,rfl,rfl,rfl,rfl,Sl.nil,c,(Hp.le.refl _),S⟩
  intro s f w hI a8 b av
  obtain ⟨ai,ar⟩:=s
  obtain ⟨u,x,h2,h6,h7,h8,ab,j,c,ac,S⟩:=hI
  refine Ws<|Wg<|La' ab h8<|We<|Ws ?_
  rcases condE b with ⟨an,b⟩ | ⟨an,b⟩
  ·refine CT an<|Wk<|Ws<|Wb<|Ws<|Wg<|B b fun d aw b=>W.idx (α:=GField) c h7 ab el22 aw ?_
   rintro a9 _ ax rfl
   refine WL.w (R.loadHN (vs:=[(str d.fName),(str d.fValue)]) S rfl ax lay68 rfl rfl) ?_
   refine W.alloc [(str []),(str [])] S zer68 ?_
   intro ba bb S
   refine W.store (i:=0) [(str d.fName),(str d.fValue)] S rfl rfl rfl lay68 rfl rfl (Nat.le_of_ble_eq_true rfl) rfl ?_
   intro bc S
   refine We<|Ws<|Wg<|M' h2 ?_
   refine WL.w (R.loadBN (i:=0) (vs:=[(str d.fName),(str d.fValue)]) S rfl rfl lay68 rfl rfl)<|B b fun bd ay b=>W.callv S rfl rfl (Fp_keep ac S.holds (hG.post S.post) d _ ay) ?_
   rintro be bf az ad S rfl
   have j:=Sl.mono j ad
   have c:=Sl.mono c ad
   refine We ?_
   rcases condE b with ⟨ao,b⟩ | ⟨ao,b⟩
   ·refine CT ao<|Wg<|M' h6 ?_
    refine WL.w (R.loadBN (i:=0) (vs:=[(str d.fName),(str d.fValue)]) S rfl rfl lay68 rfl rfl)<|W.bslice (α:=GField) [(agg [(str d.fName),(str d.fValue)])] ([d]:List GField) S el22 rfl rfl rfl (by decide) (Go.Eng.encS ⟨rfl,rfl⟩ enc0) ?_
    intro bg bh bi ap a0 S
    have j:=Sl.mono j ap
    have c:=Sl.mono c ap
    refine B b fun bj a1 b=>W.app (α:=GField) (i:=2) S el22 rfl rfl rfl j a0 a1 ?_
    intro a2 bk a3 aq a4 S
    have j:=Sl.mono j aq
    have c:=Sl.mono c aq
    refine A<|We<|Wg<|Lg' ab rfl<|M<|We ?_
    obtain rfl:=oi b
    exact ⟨rfl,⟨a3,a2,h2,rfl,h7,h8,rfl,a4,c,(((ac.trans ad).trans ap).trans aq),(S.drop _ (.cons _ (.cons _ (.cons_cons _ (.refl _)))))⟩⟩
   refine CF ao<|Wk<|Wg<|Lg' ab rfl<|M<|We ?_
   obtain rfl:=oi b
   exact ⟨rfl,⟨az,x,h2,h6,h7,h8,rfl,j,c,(ac.trans ad),(S.drop _ (.cons _ (.cons_cons _ (.refl _))))⟩⟩
  refine CF an<|Wx ?_
  obtain rfl:=oi b
  obtain rfl:=av
  exact ⟨u,x,h6,j,ac,S⟩
 rintro f w ⟨t,l,a5,a6,a7,S⟩
 refine Ws<|Wg<|M' a5<|A<|We ?_
 obtain rfl:=oi h
 have S3:=S
 have S3:=S3.front 0 rfl
 replace S3:St k o _ t (.row l 68 2 q.length :: p):=S3
 replace S3:St k o _ t (.row l 68 2 q.length :: p):=S3.drop _ (.cons_cons _ (.refl _))
 refine WP.ret (OutS.one (L':=[.row l 68 2 q.length]) rfl a7 S3 rfl ?_)
 exact ⟨_,rfl,rfl,a6⟩
theorem zOJ {b ws:World} {c Hs:Hp} {d:List Ent} (hG:Tryz.Gl b) (l:(List GField)) (o:Str) {x:Value} (S:St b c ws Hs (d)) (f:Sl (α:=GField) Hs x l) {r:(List GField)} (h:zNk l o=some r) :
  ConS Tryz.prog 168 [x,(str o)] b c ws Hs d (fun H' v L'=>∃ p:Value,L'=[.row p 68 2 r.length]∧v=p∧Sl (α:=GField) H' p r):=by
 refine ConS.mk (N:=11) Tryz.func168 rfl rfl kr rfl<|Ws<|Wg<|A<|We<|Ws<|Wg<|M<|B h fun z ad h=>W.call S rfl (zNV S.holds (hG.post S.post) o ad) ?_
 rintro v2 w3 H4 aa S ⟨kr1,cr1,rfl,Fr1⟩
 have f:=Sl.mono f aa
 refine W.alloc [.nilFunc] S zMd ?_
 intro b6 w7 S
 refine W.store (i:=0) [(.func (.func kr1) #[] cr1.toArray)] S rfl rfl rfl zLx rfl rfl (Nat.le_of_ble_eq_true rfl) rfl ?_
 intro w8 S
 refine We<|Ws<|Wg<|M ?_
 obtain ⟨H9,q,ae,_,S⟩:=S.settle (i:=0) rfl
 replace S:St b c _ H9 (d):=S
 have af:At H9 ⟨b6,0,none⟩ [(.func (.func kr1) #[] cr1.toArray)]:=⟨_,_,rfl,ae,[],by simp⟩
 have f:=Sl.mono f q
 refine WL.w (R.mkFunc (vs:=[(.pointer (some ⟨b6,0,none⟩))]) rfl)<|B h fun j ah h=>W.callS rfl (zOL hG l (fun t=>zNg t z) S f (fun hle hw hG t r h=>zNr hw hG t z (At.mono af hle (by simp)) (fun ai=>Fr1 (Hp.le.trans (Hp.le.trans q hle) ai)) h) ah) ?_
 rintro k aq u ar aj S ⟨_,rfl,rfl,ak⟩
 replace S:St b c _ u (.row k 68 2 j.length :: d):=S
 refine A<|We ?_
 obtain rfl:=oi h
 have S3:=S
 have S3:=S3.front 0 rfl
 replace S3:St b c _ u (.row k 68 2 j.length :: d):=S3
 replace S3:St b c _ u (.row k 68 2 j.length :: d):=S3.drop _ (.cons_cons _ (.refl _))
 refine WP.ret (OutS.one (L':=[.row k 68 2 j.length]) rfl ((aa.trans q).trans aj) S3 rfl ?_)
 exact ⟨_,rfl,rfl,ak⟩
theorem zN7 {z:World} {d:Hp} (hw:Holds z d) (hG:Tryz.Gl z) (b:GEntry) (ap:Int) (al:Str) {q:Value} {t:Value} {u:Value} {x:Value} (j:Sl (α:=(List Str)) d q b.fKeys) (k:Sl (α:=Str) d t b.fVary) (p:Sl (α:=Str) d u b.fSnapshot) (c:Sl (α:=GField) d x b.fFields) {r:GResponse} (h:zN3 b ap al=some r) :
  Con Tryz.prog 100 [(agg [q,t,u,(str b.fReason),x,(str b.fBody),(int b.fRequested),(int b.fReceived)]),(int ap),(str al)] z d (fun H' v=>∃ u1:Value,v=(agg [(int r.fMinor),(int r.fStatus),(str r.fReason),u1,(str r.fBody)])∧Sl (α:=GField) H' u1 r.fFields):=by
 refine Con.mk (N:=24) Tryz.func100 rfl rfl kr rfl ?_
 have S:=St.start hw
 refine Ws<|Wg ?_
 refine W.box [q,t,u,(str b.fReason),x,(str b.fBody),(int b.fRequested),(int b.fReceived)] S rfl rfl ?_
 intro b1 w2 S
 refine W.alloc [(int 0),(int 0),(str []),(.slice none 0 0),(str [])] S zer24 ?_
 intro b3 w4 S
 refine We<|Ws<|Wg<|Fb ?_
 refine Lo 1 S<|B h fun r5 ay h=>W.callS rfl (zOJ hG b.fFields [65,103,101] S c ay) ?_
 rintro v6 w7 H8 bd am S ⟨_,rfl,rfl,af⟩
 replace S:St z d _ H8 [.row v6 68 2 r5.length,.box b3 24 [(int 0),(int 0),(str []),(.slice none 0 0),(str [])],.box b1 92 [q,t,u,(str b.fReason),x,(str b.fBody),(int b.fRequested),(int b.fReceived)]]:=S
 have j:=Sl.mono j am
 have k:=Sl.mono k am
 have p:=Sl.mono p am
 have c:=Sl.mono c am
 refine M<|B h fun ah a1 h=>W.call S rfl (zNq S.holds (hG.post S.post) ap a1) ?_
 rintro be bf bg ai S rfl
 have j:=Sl.mono j ai
 have k:=Sl.mono k ai
 have p:=Sl.mono p ai
 have c:=Sl.mono c ai
 have af:=Sl.mono af ai
 refine WL.w (R.build [(0,(str [65,103,101])),(1,(str ah))] [(str [65,103,101]),(str ah)] bp68 zer68 rfl rfl)<|W.bslice (α:=GField) [(agg [(str [65,103,101]),(str ah)])] ([(⟨[65,103,101],ah⟩:GField)]:List GField) S el22 rfl rfl rfl (by decide) (Go.Eng.encS ⟨rfl,rfl⟩ enc0) ?_
 intro a2 bh bi aj a3 S
 have j:=Sl.mono j aj
 have k:=Sl.mono k aj
 have p:=Sl.mono p aj
 have c:=Sl.mono c aj
 have af:=Sl.mono af aj
 refine B h fun au a4 h=>W.app (α:=GField) (i:=1) S el22 rfl rfl rfl af a3 a4 ?_
 intro av bj aw an a5 S
 have j:=Sl.mono j an
 have k:=Sl.mono k an
 have p:=Sl.mono p an
 have c:=Sl.mono c an
 refine A<|We<|Ws<|B h fun a6 a7 h=>WP.cut (fun f w=>∃ (aa:Hp) (ao:Value),f 6=(ptr b3 0)∧Sl (α:=GField) aa ao a6∧Sl (α:=(List Str)) aa q b.fKeys∧Sl (α:=Str) aa t b.fVary∧Sl (α:=Str) aa u b.fSnapshot∧Sl (α:=GField) aa x b.fFields∧St z d w aa [.box b3 24 [(int 1),(int 200),(str b.fReason),ao,(str b.fBody)],.box b1 92 [q,t,u,(str b.fReason),x,(str b.fBody),(int b.fRequested),(int b.fReceived)]]) ?_ ?_
 ·refine WP.drawC (Cl z d aw [.box b1 92 [q,t,u,(str b.fReason),x,(str b.fBody),(int b.fRequested),(int b.fReceived)]]) kr 9 rfl (bm 9 0) rfl ?_
  have S:=S.drew
  refine WC.take (i:=0) (bm 9 1) rfl kr kr kr rfl (fun _ _=>(R.fieldB rfl zLp)) ?_
  refine WC.take (i:=1) (bm 9 3) rfl kr kr kr rfl (fun w hw=>by obtain ⟨_,hq,S⟩:=hw; exact (R.loadB (i:=0) (v:=str b.fReason) S rfl rfl lay9 rfl)) ?_
  refine WC.take (i:=2) (bm 9 7) rfl kr kr kr rfl (fun _ _=>(R.mv (v:=av) rfl)) ?_
  refine WC.take (i:=3) (bm 9 15) rfl kr kr kr rfl (fun _ _=>(R.mv (v:=str al) rfl)) ?_
  refine WC.take (i:=5) (bm 9 47) rfl kr kr kr rfl (fun _ _=>(R.fieldB rfl zL0)) ?_
  refine WC.take (i:=6) (bm 9 111) rfl kr kr kr rfl (fun w hw=>by obtain ⟨_,hq,S⟩:=hw; exact (R.loadB (i:=0) (v:=str b.fBody) S rfl rfl lay9 rfl)) ?_
  refine WC.next (rs:=[4]) ⟨aw,(Hp.le.refl _),S.drop _ (.cons _ (.cons _ (.cons _ (.cons_cons _ .slnil))))⟩ kr (List.cons_ne_nil _ _) (all1 ?_)
  refine Nxt.mk (o:=_) (bm 9 127) rfl rfl<|W.call S rfl (zNO S.holds (hG.post S.post) au 1 al a5 a7) ?_
  rintro ab bk ak ac S aq
  have j:=Sl.mono j ac
  have k:=Sl.mono k ac
  have p:=Sl.mono p ac
  have c:=Sl.mono c ac
  refine We ?_
  refine WC.take (i:=7) (bm 9 255) rfl kr kr kr rfl (fun _ _=>(R.build [(0,(int 1)),(1,(int 200)),(2,(str b.fReason)),(3,ab),(4,(str b.fBody))] [(int 1),(int 200),(str b.fReason),ab,(str b.fBody)] bp24 zer24 kr (by obtain ⟨_,_,rfl,_⟩:=aq; rfl))) ?_
  refine WC.next (rs:=[8]) ⟨ak,ac,S.drop _ (.cons _ (.cons _ (.cons _ (.cons_cons _ .slnil))))⟩ kr (List.cons_ne_nil _ _) (all1 ?_)
  refine Nxt.mk (o:=_) (bm 9 511) rfl rfl ?_
  refine W.store (i:=2) [(int 1),(int 200),(str b.fReason),ab,(str b.fBody)] S rfl rfl rfl lay24 rfl (AllOne.all (l:=[(int 1),(int 200),(str b.fReason),ab,(str b.fBody)]) (.cons rfl (.cons rfl (.cons rfl (.cons (Sl.oneC aq) (.cons rfl .nil)))))) (Nat.le_of_ble_eq_true rfl) rfl ?_
  intro bn S
  refine We<|WC.done ⟨ak,ac,S.drop _ (.cons _ (.cons _ (.cons _ (.cons_cons _ .slnil))))⟩ kr ?_
  have S3:=S
  replace S3:=S3.front 3 rfl
  replace S3:=S3.front 3 rfl
  replace S3:St z d _ ak [.box b3 24 [(int 1),(int 200),(str b.fReason),ab,(str b.fBody)],.box b1 92 [q,t,u,(str b.fReason),x,(str b.fBody),(int b.fRequested),(int b.fReceived)],.row a2 68 2 ([(⟨[65,103,101],ah⟩:GField)]:List GField).length,.row av 68 2 au.length]:=S3
  replace S3:St z d _ ak [.box b3 24 [(int 1),(int 200),(str b.fReason),ab,(str b.fBody)],.box b1 92 [q,t,u,(str b.fReason),x,(str b.fBody),(int b.fRequested),(int b.fReceived)]]:=S3.drop _ (.cons_cons _ (.cons_cons _ (.cons _ (.cons _ .slnil))))
  exact ⟨ak,ab,rfl,aq,j,k,p,c,S3⟩
 rintro f w ⟨aa,ao,a8,a9,bo,bp,bq,br,S⟩
 obtain rfl:=oi h
 refine WP.ret (Out.one rfl S (Res.cellB (i:=0) (cs:=[(int 1),(int 200),(str b.fReason),ao,(str b.fBody)]) S a8 rfl lay24 rfl rfl) ?_)
 exact ⟨_,rfl,a9⟩
theorem zJM {z:World} {d:Hp} (hw:Holds z d) (hG:Tryz.Gl z) (b:GEntry) (aa:Int) (ab:Str) {f:Value} {j:Value} {k:Value} {o:Value} (p:Sl (α:=(List Str)) d f b.fKeys) (q:Sl (α:=Str) d j b.fVary) (t:Sl (α:=Str) d k b.fSnapshot) (u:Sl (α:=GField) d o b.fFields) {r:GResponse} (h:zD1 b aa ab=some r) :
  Con Tryz.prog 55 [(agg [f,j,k,(str b.fReason),o,(str b.fBody),(int b.fRequested),(int b.fReceived)]),(int aa),(str ab)] z d (fun H' v=>∃ u1:Value,v=(agg [(int r.fMinor),(int r.fStatus),(str r.fReason),u1,(str r.fBody)])∧Sl (α:=GField) H' u1 r.fFields):=by
 refine Con.mk (N:=13) Tryz.func55 rfl rfl kr rfl ?_
 have S:=St.start hw
 refine Ws<|Wg ?_
 refine W.box [f,j,k,(str b.fReason),o,(str b.fBody),(int b.fRequested),(int b.fReceived)] S rfl rfl ?_
 intro b1 w2 S
 refine W.alloc [(int 0),(int 0),(str []),(.slice none 0 0),(str [])] S zer24 ?_
 intro b3 w4 S
 refine We<|Ws<|WP.quietTail 5 S kr kr ?_
 refine WQ.val (fun w hw=>by obtain ⟨_,hq,S⟩:=hw; exact (R.loadBN (i:=1) (vs:=[f,j,k,(str b.fReason),o,(str b.fBody),(int b.fRequested),(int b.fReceived)]) S rfl rfl lay92 rfl rfl)) ?_
 refine WQ.val (fun w hw=>by obtain ⟨_,hq,S⟩:=hw; exact (R.loadBN (i:=1) (vs:=[f,j,k,(str b.fReason),o,(str b.fBody),(int b.fRequested),(int b.fReceived)]) S rfl rfl lay92 rfl rfl))<|QM<|B h fun r8 ah h=>WQ.call (v:=int r8) rfl (fun w H' hq S=>zI0 S.holds (hG.post S.post) b aa (Sl.mono p hq) (Sl.mono q hq) (Sl.mono t hq) (Sl.mono u hq) ah)<|QM<|WQ.nil ?_
 intro w5 H6 x S
 have p:=Sl.mono p x
 have q:=Sl.mono q x
 have t:=Sl.mono t x
 have u:=Sl.mono u x
 refine B h fun c ai h=>W.call S rfl (zN7 S.holds (hG.post S.post) b r8 ab p q t u ai) ?_
 rintro ap aq ar au S ⟨ac,rfl,af⟩
 refine W.store (i:=0) [(int c.fMinor),(int c.fStatus),(str c.fReason),ac,(str c.fBody)] S rfl rfl rfl lay24 rfl (AllOne.all (l:=[(int c.fMinor),(int c.fStatus),(str c.fReason),ac,(str c.fBody)]) (.cons rfl (.cons rfl (.cons rfl (.cons (Sl.oneC af) (.cons rfl .nil)))))) (Nat.le_of_ble_eq_true rfl) rfl ?_
 intro av S
 refine We ?_
 obtain rfl:=oi h
 refine WP.ret (Out.one rfl S (Res.cellB (i:=0) (cs:=[(int c.fMinor),(int c.fStatus),(str c.fReason),ac,(str c.fBody)]) S rfl rfl lay24 rfl rfl) ?_)
 exact ⟨_,rfl,af⟩
theorem zFu {b:World} {c:Hp} (hw:Holds b c) (hG:Tryz.Gl b) (d:(List GField)) (f:Str) {i:Value} (j:Sl (α:=GField) c i d) {r:(Str×Int×Bool)} (h:zCE d f=some r) :
  Con Tryz.prog 110 [i,(str f)] b c (fun H' v=>v=(.tuple ⟨[(str r.1),(int r.2.1),(boo r.2.2)]⟩)):=by
 refine Con.mk (N:=25) Tryz.func110 rfl rfl kr rfl ?_
 have S:=St.start hw
 refine Ws<|Wg<|A<|A<|A<|We<|Ws<|Wg<|M<|M<|B h fun k l h=>W.call S rfl (zNe S.holds (hG.post S.post) d f j l) ?_
 rintro p q t u S rfl
 refine M ?_
 refine Ex ?_
 refine Ex<|A<|A<|We<|Ws<|Wg<|M<|B h fun x o h=>W.call S rfl (zHu S.holds (hG.post S.post) k.1 o) ?_
 rintro z w8 H9 ac S rfl
 refine M ?_
 refine Ex ?_
 refine Ex<|A<|A<|We<|Ws<|Wg<|M<|M<|M<|A ?_
 refine A<|A<|We ?_
 obtain rfl:=oi h
 refine WP.ret (Out.three rfl S rfl rfl rfl ?_)
 exact rfl
theorem zGe {t:World} {o:Hp} (hw:Holds t o) (hG:Tryz.Gl t) (b:GRequest) (c:GResponse) {u:Value} {x:Value} (p:Sl (α:=GField) o u b.fFields) (k:Sl (α:=GField) o x c.fFields) {r:Bool} (h:zBN b c=some r) :
  Con Tryz.prog 166 [(agg [(str b.fMethod),(str b.fTarget),(int b.fMinor),u,(str b.fBody)]),(agg [(int c.fMinor),(int c.fStatus),(str c.fReason),x,(str c.fBody)])] t o (fun H' v=>v=(boo r)):=by
 refine Con.mk (N:=88) Tryz.func166 rfl rfl kr rfl ?_
 have S:=St.start hw
 refine Ws<|Wg ?_
 refine W.box [(str b.fMethod),(str b.fTarget),(int b.fMinor),u,(str b.fBody)] S rfl rfl ?_
 intro b1 w2 S
 refine W.box [(int c.fMinor),(int c.fStatus),(str c.fReason),x,(str c.fBody)] S rfl rfl ?_
 intro b3 w4 S
 refine A<|We<|Ws<|Ws<|Wg<|Fb ?_
 refine Lo 1 S<|Nb<|M ?_
 refine WL.grp 4 [21,22,23] 24 (boo ((b.fMethod !=[71,69,84])&&(b.fMethod !=[72,69,65,68]))) ?_ ?_
 ·rcases boolE (b.fMethod !=[71,69,84]) with d | d
  ·refine Gy d<|Fb<|Gy d ?_
   refine Lo 1 S<|Gy d<|Nb<|Pt d ?_
   exact We ⟨(andT d),ag,rfl⟩
  refine Gn d<|Gn d<|Gn d<|Pf d ?_
  exact We ⟨(andF d),ag,rfl⟩
 intro us
 refine M ?_
 refine WL.grp 4 [26,27,28] 29 (boo (((b.fMethod !=[71,69,84])&&(b.fMethod !=[72,69,65,68]))||(c.fStatus !=200))) ?_ ?_
 ·rcases boolE ((b.fMethod !=[71,69,84])&&(b.fMethod !=[72,69,65,68])) with f | f
  ·refine Gn f<|Gn f<|Gn f<|Pt f ?_
   exact We ⟨(orT f),ag,rfl⟩
  refine Gy f<|Fb<|Gy f ?_
  refine Lo 0 S<|Gy f<|Lf<|Pf f ?_
  exact We ⟨(orF f),ag,rfl⟩
 intro us
 refine We ?_
 rcases condE h with ⟨z,h⟩ | ⟨z,h⟩
 ·refine CT z ?_
  cases h
 refine CF z<|Wk<|Ws<|Ws<|Wg<|Fb ?_
 refine Lo 1 S<|B h fun al ac h=>W.call S rfl (zNS S.holds (hG.post S.post) b.fFields [73,102,45,78,111,110,101,45,77,97,116,99,104] p ac) ?_
 rintro am an ao ab S rfl
 have p:=Sl.mono p ab
 have k:=Sl.mono k ab
 refine We ?_
 rcases condE h with ⟨aa,h⟩ | ⟨aa,h⟩
 ·refine CT aa ?_
  cases h
 refine CF aa<|Wk<|Ws<|Wg<|Fb ?_
 refine Lo 1 S<|B h fun l ad h=>W.call S rfl (zFu S.holds (hG.post S.post) b.fFields [73,102,45,77,111,100,105,102,105,101,100,45,83,105,110,99,101] p ad) ?_
 rintro ap aq ar ae S rfl
 have k:=Sl.mono k ae
 refine M ?_
 refine Ex ?_
 refine Ex ?_
 refine Ex<|A<|A<|A<|We<|Ws<|Wg<|Fb ?_
 refine Lo 0 S<|B h fun q af h=>W.call S rfl (zFu S.holds (hG.post S.post) c.fFields [76,97,115,116,45,77,111,100,105,102,105,101,100] k af) ?_
 rintro au av aw ax S rfl
 refine M ?_
 refine Ex ?_
 refine Ex ?_
 refine Ex<|A<|A<|A<|We<|Ws<|Wg<|M<|M ?_
 refine WL.grp 2 [81] 82 (boo (l.2.2&&q.2.2)) ?_ ?_
 ·rcases boolE l.2.2 with j | j
  ·refine Gy j<|M<|Pt j ?_
   exact We ⟨(andT j),ag,rfl⟩
  refine Gn j<|Pf j ?_
  exact We ⟨(andF j),ag,rfl⟩
 intro us
 refine M ?_
 refine WL.grp 4 [84,85,86] 87 (boo ((l.2.2&&q.2.2)&&(decide (q.2.1≤l.2.1)))) ?_ ?_
 ·rcases boolE (l.2.2&&q.2.2) with i | i
  ·refine Gy i<|M<|Gy i<|M<|Gy i<|Lb<|Pt i ?_
   exact We ⟨(andT i),ag,rfl⟩
  refine Gn i<|Gn i<|Gn i<|Pf i ?_
  exact We ⟨(andF i),ag,rfl⟩
 intro us
 refine A<|We ?_
 obtain rfl:=oi h
 refine WP.ret (Out.one rfl S rfl ?_)
 exact rfl
theorem zIH {p:World} {o:Hp} (hw:Holds p o) (hG:Tryz.Gl p) (q:Str) {r:(Int×Bool)} (h:zCx q=some r) :
  Con Tryz.prog 240 [(str q)] p o (fun H' v=>v=(.tuple ⟨[(int r.1),(boo r.2)]⟩)):=by
 refine Con.mk (N:=37) Tryz.func240 rfl rfl kr rfl ?_
 have S:=St.start hw
 refine Ws<|Wg<|A<|A<|We<|Ws<|Ws<|Wg<|M<|Ns<|Lf<|M<|B h fun u k h=>WL.grp 4 [10,11,12] 13 (boo u) ?_ ?_
 ·rcases boolE ((q.length:Int) !=3) with d | d
  ·replace k:=condT k d
   refine Gn d<|Gn d<|Gn d<|Pt d ?_
   exact We ⟨(congrArg boo (oi k)),ag,rfl⟩
  replace k:=condF k d
  refine Gy d<|M<|Gy d<|B k fun c3 ac k=>Ja ac<|Gy d<|Ma c3 49<|Pf d ?_
  exact We ⟨(congrArg boo (oi k)),ag,rfl⟩
 intro us
 refine M<|B h fun x l h=>WL.grp 4 [15,16,17] 18 (boo x) ?_ ?_
 ·rcases boolE u with f | f
  ·replace l:=condT l f
   refine Gn f<|Gn f<|Gn f<|Pt f ?_
   exact We ⟨(congrArg boo (oi l)),ag,rfl⟩
  replace l:=condF l f
  refine Gy f<|M<|Gy f<|B l fun c7 ae l=>Ja ae<|Gy f<|Mc c7 53<|Pf f ?_
  exact We ⟨(congrArg boo (oi l)),ag,rfl⟩
 intro us
 refine M<|B h fun z i h=>WL.grpw 5 [20,21,22,23] 24 (boo z) (fun w=>∃ H':Hp,o.le H'∧St p o w H' []) ?_ ?_
 ·rcases boolE x with b | b
  ·replace i:=condT i b
   refine Gn b<|Gn b<|Gn b<|Gn b<|Pt b ?_
   exact We ⟨(congrArg boo (oi i)),ag,⟨o,(Hp.le.refl _),S⟩⟩
  replace i:=condF i b
  refine Gy b<|M<|Gy b<|B i fun af ah i=>Ja ah<|Gy b<|B i fun au ai i=>W.call S rfl (zNf S.holds (hG.post S.post) af ai) ?_
  rintro av aw aj ak S rfl
  refine Gy b<|No<|Pf b ?_
  exact We ⟨(congrArg boo (oi i)),ag,⟨aj,ak,S⟩⟩
 intro us ax ⟨aa,ay,S⟩
 refine M<|B h fun al j h=>WL.grpw 5 [26,27,28,29] 30 (boo al) (fun w=>∃ H':Hp,aa.le H'∧St p o w H' []) ?_ ?_
 ·rcases boolE z with c | c
  ·replace j:=condT j c
   refine Gn c<|Gn c<|Gn c<|Gn c<|Pt c ?_
   exact We ⟨(congrArg boo (oi j)),ag,⟨aa,(Hp.le.refl _),S⟩⟩
  replace j:=condF j c
  refine Gy c<|M<|Gy c<|B j fun am an j=>Ja an<|Gy c<|B j fun az ao j=>W.call S rfl (zNf S.holds (hG.post S.post) am ao) ?_
  rintro a0 a1 ap aq S rfl
  refine Gy c<|No<|Pf c ?_
  exact We ⟨(congrArg boo (oi j)),ag,⟨ap,aq,S⟩⟩
 intro us a2 ⟨a3,a4,S⟩
 refine We ?_
 rcases condE h with ⟨t,h⟩ | ⟨t,h⟩
 ·refine CT t ?_
  cases h
 refine CF t<|Wk<|Ws<|Wg<|M<|B h fun a5 ar h=>W.call S rfl (zCI S.holds (hG.post S.post) q ar) ?_
 rintro a6 a7 a8 a9 S rfl
 refine M ?_
 refine Ex ?_
 refine Ex<|A<|A<|We<|Ws<|Wg<|M<|A<|A<|We ?_
 obtain rfl:=oi h
 refine WP.ret (Out.two rfl S rfl rfl ?_)
 exact rfl
end Go.Proofs
