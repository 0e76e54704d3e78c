/- A part. -/
import Derived.Test.YtljjaiijlaeoeaaGreatDoorEng38
import Derived.Test.YtljjaiijlaeoeaaGreatDoorEng36
import Derived.Test.YtljjaiijlaeoeaaGreatDoorGenP7
namespace Go.Proofs
set_option maxHeartbeats 4000000
set_option maxRecDepth 10000
open Go.Eng Go.Eng.Pure
set_option linter.unusedVariables false
theorem zFk {q:World} {z:Hp} (hw:Holds q z) (hG:Tryz.Gl q) (f:Int) (p:Int) (b:GControl) (c:GControl) {r:Bool} (h:zD7 f p b c=some r) :
  Cb Tryz.prog 161 [(int f),(int p),(agg [(boo b.fNoStore),(boo b.fNoCache),(boo b.fMustRevalidate),(boo b.fProxyRevalidate),(boo b.fPrivate),(boo b.fPublic),(boo b.fOnlyIfCached),(int b.fMaxAge),(int b.fSMaxAge),(int b.fMinFresh),(int b.fMaxStale)]),(agg [(boo c.fNoStore),(boo c.fNoCache),(boo c.fMustRevalidate),(boo c.fProxyRevalidate),(boo c.fPrivate),(boo c.fPublic),(boo c.fOnlyIfCached),(int c.fMaxAge),(int c.fSMaxAge),(int c.fMinFresh),(int c.fMaxStale)])] q z r:=by
 refine CM 83 Tryz.func161 hw fun S=>?_
 refine Ws<|Wg ?_
 refine W.box [(boo b.fNoStore),(boo b.fNoCache),(boo b.fMustRevalidate),(boo b.fProxyRevalidate),(boo b.fPrivate),(boo b.fPublic),(boo b.fOnlyIfCached),(int b.fMaxAge),(int b.fSMaxAge),(int b.fMinFresh),(int b.fMaxStale)] S rfl rfl ?_
 intro b1 w2 S
 refine W.box [(boo c.fNoStore),(boo c.fNoCache),(boo c.fMustRevalidate),(boo c.fProxyRevalidate),(boo c.fPrivate),(boo c.fPublic),(boo c.fOnlyIfCached),(int c.fMaxAge),(int c.fSMaxAge),(int c.fMinFresh),(int c.fMaxStale)] S rfl rfl ?_
 intro b3 w4 S
 refine A<|We<|Ws<|Wb<|Ws<|Wg<|M<|La<|M ?_
 refine WL.grp 3 [13,14] 15 (boo ((decide (f<0))||(decide (2147483647<f)))) ?_ ?_
 ·rcases boolE (decide (f<0)) with j | j
  ·refine Gn j<|Gn j<|Pt j ?_
   exact We ⟨(orT j),ag,rfl⟩
  refine Gy j<|M<|Gy j<|Lc<|Pf j ?_
  exact We ⟨(orF j),ag,rfl⟩
 intro us
 refine M ?_
 refine WL.grp 3 [17,18] 19 (boo (((decide (f<0))||(decide (2147483647<f)))||(decide (p<0)))) ?_ ?_
 ·rcases boolE ((decide (f<0))||(decide (2147483647<f))) with k | k
  ·refine Gn k<|Gn k<|Pt k ?_
   exact We ⟨(orT k),ag,rfl⟩
  refine Gy k<|M<|Gy k<|La<|Pf k ?_
  exact We ⟨(orF k),ag,rfl⟩
 intro us
 refine M ?_
 refine WL.grp 3 [21,22] 23 (boo ((((decide (f<0))||(decide (2147483647<f)))||(decide (p<0)))||(decide (2147483647<p)))) ?_ ?_
 ·rcases boolE (((decide (f<0))||(decide (2147483647<f)))||(decide (p<0))) with l | l
  ·refine Gn l<|Gn l<|Pt l ?_
   exact We ⟨(orT l),ag,rfl⟩
  refine Gy l<|M<|Gy l<|Lc<|Pf l ?_
  exact We ⟨(orF l),ag,rfl⟩
 intro us
 refine A<|We ?_
 rcases condE h with ⟨t,h⟩ | ⟨t,h⟩
 ·refine CT t ?_
  cases h
 refine CF t<|Ws<|Wg<|Fb ?_
 refine Lo 1 S<|M ?_
 refine WL.grp 3 [28,29] 30 (boo (b.fNoCache||c.fNoCache)) ?_ ?_
 ·rcases boolE b.fNoCache with o | o
  ·refine Gn o<|Gn o<|Pt o ?_
   exact We ⟨(orT o),ag,rfl⟩
  refine Gy o<|Fb<|Gy o ?_
  refine Lo 0 S<|Pf o ?_
  exact We ⟨(orF o),ag,rfl⟩
 intro us
 refine A<|We ?_
 rcases condE h with ⟨u,h⟩ | ⟨u,h⟩
 ·refine CT u ?_
  cases h
 refine CF u<|Ws<|Wg<|Fb ?_
 refine Lo 1 S<|Lf<|M ?_
 refine WL.grp 5 [36,37,38,39] 40 (boo ((b.fMaxAge !=(-1))&&(decide (b.fMaxAge<p)))) ?_ ?_
 ·rcases boolE (b.fMaxAge !=(-1)) with i | i
  ·refine Gy i<|M<|Gy i<|Fb<|Gy i ?_
   refine Lo 1 S<|Gy i<|Lc<|Pt i ?_
   exact We ⟨(andT i),ag,rfl⟩
  refine Gn i<|Gn i<|Gn i<|Gn i<|Pf i ?_
  exact We ⟨(andF i),ag,rfl⟩
 intro us
 refine A<|We ?_
 rcases condE h with ⟨v,h⟩ | ⟨v,h⟩
 ·refine CT v ?_
  cases h
 refine CF v<|Ws<|Wg<|M<|M<|La<|A<|We ?_
 rcases condE h with ⟨x,h⟩ | ⟨x,h⟩
 ·refine CT x<|Ws<|Wg<|Fb ?_
  refine Lo 1 S<|Le<|M ?_
  refine WL.grp 7 [49,50,51,52,53,54] 55 (boo ((b.fMinFresh==(-1))||(decide (b.fMinFresh≤(wr (f - p)))))) ?_ ?_
  ·rcases boolE (b.fMinFresh==(-1)) with d | d
   ·refine Gn d<|Gn d<|Gn d<|Gn d<|Gn d<|Gn d<|Pt d ?_
    exact We ⟨(orT d),ag,rfl⟩
   refine Gy d<|M<|Gy d<|M<|Gy d<|Lh<|Gy d<|Fb<|Gy d ?_
   refine Lo 1 S<|Gy d<|Ld ?_
   refine Pf d ?_
   exact We ⟨(orF d),ag,rfl⟩
  intro us
  refine A<|We ?_
  exact WP.ret (Rb h S)
 refine CF x ?_
 cases h
theorem zGT {t:World} {j:Hp} (hw:Holds t j) (hG:Tryz.Gl t) (b:GEntry) (f:GRequest) (u:Int) {l:Value} {o:Value} {p:Value} {k:Value} {q:Value} (ab:Sl j l b.fKeys) (ac:Sl j o b.fVary) (ad:Sl j p b.fSnapshot) (x:Sl j k b.fFields) (ae:Sl j q f.fFields) {r:Bool} (h:zEt b f u=some r) :
  Cb Tryz.prog 96 [(agg [l,o,p,(str b.fReason),k,(str b.fBody),(int b.fRequested),(int b.fReceived)]),(agg [(str f.fMethod),(str f.fTarget),(int f.fMinor),q,(str f.fBody)]),(int u)] t j r:=by
 refine CM 20 Tryz.func96 hw fun S=>?_
 refine Ws<|Wg ?_
 refine W.box [l,o,p,(str b.fReason),k,(str b.fBody),(int b.fRequested),(int b.fReceived)] S rfl rfl ?_
 intro b1 w2 S
 refine W.box [(str f.fMethod),(str f.fTarget),(int f.fMinor),q,(str f.fBody)] S rfl rfl ?_
 intro b3 w4 S
 refine A<|We<|Ws<|WP.quiet S kr kr<|QFb ?_
 refine QB 1 k<|B h fun z af h=>WQ.call (v:=int z) rfl (fun w H' hq S=>zB1 S.holds (hG.post S.post) b.fFields (x.up hq) af) ?_
 refine WQ.val (fun w hw=>by obtain ⟨_,hq,S⟩:=hw; exact (R.loadBN (i:=1) (vs:=[l,o,p,(str b.fReason),k,(str b.fBody),(int b.fRequested),(int b.fReceived)]) S rfl rfl lay92 rfl rfl))<|QM<|B h fun aa ah h=>WQ.call (v:=int aa) rfl (fun w H' hq S=>zFy S.holds (hG.post S.post) b u (ab.up hq) (ac.up hq) (ad.up hq) (x.up hq) ah)<|QFb ?_
 refine QB 0 q<|B h fun c ai h=>WQ.call (v:=agg [(boo c.fNoStore),(boo c.fNoCache),(boo c.fMustRevalidate),(boo c.fProxyRevalidate),(boo c.fPrivate),(boo c.fPublic),(boo c.fOnlyIfCached),(int c.fMaxAge),(int c.fSMaxAge),(int c.fMinFresh),(int c.fMaxStale)]) rfl (fun w H' hq S=>zA5 S.holds (hG.post S.post) f.fFields (ae.up hq) ai)<|QFb ?_
 refine QB 1 k<|B h fun d aj h=>WQ.call (v:=agg [(boo d.fNoStore),(boo d.fNoCache),(boo d.fMustRevalidate),(boo d.fProxyRevalidate),(boo d.fPrivate),(boo d.fPublic),(boo d.fOnlyIfCached),(int d.fMaxAge),(int d.fSMaxAge),(int d.fMinFresh),(int d.fMaxStale)]) rfl (fun w H' hq S=>zAa S.holds (hG.post S.post) b.fFields (x.up hq) aj)<|B h fun ak al h=>WQ.call (v:=boo ak) rfl (fun w H' hq S=>zFk S.holds (hG.post S.post) z aa c d al)<|QA<|WQ.nil ?_
 intro w5 H6 au S
 exact WP.ret (Rb h S)
theorem zBQ {w0:World} {u:Hp} (hw:Holds w0 u) (hG:Tryz.Gl w0) (q:GTable) (c:GRequest) (aj:Int) (d:GConfig) {ad:Value} {ab:Value} {ae:Value} (af:Sl u ad q.fAxes) (z:Sl u ab q.fEntries) (x:Sl u ae c.fFields) {r:GDecision} (h:zDW q c aj d=some r) :
  Con Tryz.prog 52 [(agg [ad,ab]),(agg [(str c.fMethod),(str c.fTarget),(int c.fMinor),ae,(str c.fBody)]),(int aj),(agg [(str d.fName),(int d.fBytes),(int d.fVariants),(int d.fTables),(boo d.fStrict),(boo d.fRefuse)])] w0 u (fun H' v=>v=(agg [(int r.fKind),(int r.fIndex)])):=by
 refine CM 87 Tryz.func52 hw fun S=>?_
 refine Ws<|Wg ?_
 refine W.box [ad,ab] S rfl rfl ?_
 intro b1 w2 S
 refine W.box [(str c.fMethod),(str c.fTarget),(int c.fMinor),ae,(str c.fBody)] S rfl rfl ?_
 intro b3 w4 S
 refine W.box [(str d.fName),(int d.fBytes),(int d.fVariants),(int d.fTables),(boo d.fStrict),(boo d.fRefuse)] S rfl rfl ?_
 intro b5 w6 S
 refine W.alloc [(int 0),(int 0)] S zGq ?_
 intro b7 w8 S
 refine We<|Ws<|Wg ?_
 refine WL.w (R.build [(0,(int 3)),(1,(int (-1)))] [(int 3),(int (-1))] bp108 zGq rfl rfl) ?_
 refine W.alloc [(int 0),(int 0)] S zGq ?_
 intro b9 bx S
 refine W.store (i:=0) [(int 3),(int (-1))] S rfl rfl rfl zFO rfl rfl (Nat.le_of_ble_eq_true rfl) rfl ?_
 intro bz S
 refine We<|Ws<|Ws<|Wg<|Fb ?_
 refine Lo 3 S<|Nb<|M ?_
 refine WL.grp 4 [19,20,21] 22 (boo ((c.fMethod !=[71,69,84])&&(c.fMethod !=[72,69,65,68]))) ?_ ?_
 ·rcases boolE (c.fMethod !=[71,69,84]) with l | l
  ·refine Gy l<|Fb<|Gy l ?_
   refine Lo 3 S<|Gy l<|Nb<|Pt l ?_
   exact We ⟨(andT l),ag,rfl⟩
  refine Gn l<|Gn l<|Gn l<|Pf l ?_
  exact We ⟨(andF l),ag,rfl⟩
 intro us
 refine We ?_
 rcases condE h with ⟨ak,h⟩ | ⟨ak,h⟩
 ·refine CT ak ?_
  cases h
 refine CF ak<|Wk<|Ws<|Wg ?_
 refine WL.w (R.loadBN (i:=4) (vs:=[ad,ab]) S rfl rfl lay62 rfl rfl)<|Fb ?_
 refine Lo 3 S<|Fb ?_
 refine Lo 2 S<|B h fun t a0 h=>W.call S rfl (zG5 S.holds (hG.post S.post) q c.fFields d.fStrict af z x a0) ?_
 rintro b0 b2 b4 a1 S rfl
 have ⟨af,z,x⟩:=U3 a1 af z x
 refine M ?_
 refine Ex ?_
 refine Ex<|A<|A<|We<|Ws<|Ws<|Wg<|Fb ?_
 refine Lo 4 S<|Nq af ?_
 refine Lc<|M ?_
 refine WL.grp 3 [38,39] 40 (boo ((decide (0<(q.fAxes.length:Int)))&&(!t.2))) ?_ ?_
 ·rcases boolE (decide (0<(q.fAxes.length:Int))) with o | o
  ·refine Gy o<|M<|Gy o<|No<|Pt o ?_
   exact We ⟨(andT o),ag,rfl⟩
  refine Gn o<|Gn o<|Pf o ?_
  exact We ⟨(andF o),ag,rfl⟩
 intro us
 refine M ?_
 refine WL.grp 3 [42,43] 44 (boo (((decide (0<(q.fAxes.length:Int)))&&(!t.2))&&d.fRefuse)) ?_ ?_
 ·rcases boolE ((decide (0<(q.fAxes.length:Int)))&&(!t.2)) with p | p
  ·refine Gy p<|Fb<|Gy p ?_
   refine Lo 2 S<|Pt p ?_
   exact We ⟨(andT p),ag,rfl⟩
  refine Gn p<|Gn p<|Pf p ?_
  exact We ⟨(andF p),ag,rfl⟩
 intro us
 refine We ?_
 rcases condE h with ⟨al,h⟩ | ⟨al,h⟩
 ·refine CT al ?_
  cases h
 refine CF al<|Wk<|Ws<|Wg<|Fb ?_
 refine Lo 3 S<|B h fun b a2 h=>W.call S rfl (zA5 S.holds (hG.post S.post) c.fFields x a2) ?_
 rintro b6 b8 a3 a4 S rfl
 have ⟨z,x⟩:=U2 a4 z x
 refine W.alloc [(boo false),(boo false),(boo false),(boo false),(boo false),(boo false),(boo false),(int 0),(int 0),(int 0),(int 0)] S zGh ?_
 intro aw ca S
 refine W.store (i:=0) [(boo b.fNoStore),(boo b.fNoCache),(boo b.fMustRevalidate),(boo b.fProxyRevalidate),(boo b.fPrivate),(boo b.fPublic),(boo b.fOnlyIfCached),(int b.fMaxAge),(int b.fSMaxAge),(int b.fMinFresh),(int b.fMaxStale)] S rfl rfl rfl zEb rfl rfl (Nat.le_of_ble_eq_true rfl) rfl ?_
 intro cb S
 refine We<|Ws<|Ws<|Wg<|Fb ?_
 refine Lo 0 S<|We ?_
 rcases condE h with ⟨am,h⟩ | ⟨am,h⟩
 ·refine CT am ?_
  cases h
 refine CF am<|Wk<|Ws<|Wg<|A<|We<|Ws<|Ws<|Wg<|M<|Ld<|We<|B h fun a5 j h=>WP.cut (fun f w=>∃ (an:Hp),f 8=(ptr b7 0)∧f 9=(ptr b9 0)∧f 10=(int t.1)∧f 12=(ptr aw 0)∧f 13=(int a5)∧St w0 u w an [.box aw 164 [(boo b.fNoStore),(boo b.fNoCache),(boo b.fMustRevalidate),(boo b.fProxyRevalidate),(boo b.fPrivate),(boo b.fPublic),(boo b.fOnlyIfCached),(int b.fMaxAge),(int b.fSMaxAge),(int b.fMinFresh),(int b.fMaxStale)],.box b9 108 [(int 3),(int (-1))],.box b7 108 [(int 0),(int 0)]]) ?_ ?_
 ·rcases condE j with ⟨ao,j⟩ | ⟨ao,j⟩
  ·refine CT ao<|Ws<|Wg<|A<|We<|Ws<|WP.quiet S kr kr<|QFb ?_
   refine QB 5 ab<|QM<|B j fun ac a6 j=>WQ.idx (α:=GEntry) z rfl rfl el60 a6 ?_
   rintro cc _ a7 ⟨a8,a9,ba,bb,rfl,bc,bd,be,bf⟩
   refine WQ.val (fun w hw=>by obtain ⟨_,hq,S⟩:=hw; exact (R.loadHN (vs:=[a8,a9,ba,(str ac.fReason),bb,(str ac.fBody),(int ac.fRequested),(int ac.fReceived)]) S rfl (At.mono a7 hq (by simp)) lay92 rfl rfl)) ?_
   refine WQ.val (fun w hw=>by obtain ⟨_,hq,S⟩:=hw; exact (R.loadBN (i:=4) (vs:=[(str c.fMethod),(str c.fTarget),(int c.fMinor),ae,(str c.fBody)]) S rfl rfl lay94 rfl rfl))<|QM<|B j fun bg bh j=>WQ.call (v:=boo bg) rfl (fun w H' hq S=>zGT S.holds (hG.post S.post) ac c aj (bc.up hq) (bd.up hq) (be.up hq) (bf.up hq) (x.up hq) bh)<|WQ.nil ?_
   intro cd bi ce S
   rcases condE j with ⟨ap,j⟩ | ⟨ap,j⟩
   ·refine CT ap<|Wg<|A<|We ?_
    obtain rfl:=oi j
    exact ⟨bi,rfl,rfl,rfl,rfl,rfl,(S.pk [0,1,2])⟩
   refine CF ap ?_
   cases j
  refine CF ao<|Wk ?_
  obtain rfl:=oi j
  exact ⟨a3,rfl,rfl,rfl,rfl,rfl,(S.pk [0,1,2])⟩
 rintro f w ⟨an,aq,bj,bk,bn,bo,S⟩
 refine Ws<|Ws<|Wg<|M' bo<|We<|B h fun ax k h=>WP.cut (fun f w=>match ax with | .inl _=>∃ (ay:Hp),f 8=(ptr b7 0)∧f 9=(ptr b9 0)∧St w0 u w ay [.box b9 108 [(int 3),(int (-1))],.box b7 108 [(int 0),(int 0)]] | .inr _=>False) ?_ ?_
 ·refine Wb<|Ws<|Wb<|Ws<|Wb<|Ws<|Wb<|Ws<|Ws<|Ws<|Wg<|Le ?_
  refine A<|We ?_
  rcases condE k with ⟨ar,k⟩ | ⟨ar,k⟩
  ·refine CT ar<|Wx<|Ws<|Ws<|Wg<|M' bk ?_
   refine WL.w (R.build [(0,(int 1)),(1,(int t.1))] [(int 1),(int t.1)] bp108 zGq rfl rfl) ?_
   refine W.store (i:=2) [(int 1),(int t.1)] S aq rfl rfl zFO rfl rfl (Nat.le_of_ble_eq_true rfl) rfl ?_
   intro cf S
   refine We ?_
   obtain rfl:=oi k
   obtain rfl:=oi h
   refine WP.ret (Out.one rfl S (Res.cellB (i:=2) (cs:=[(int 1),(int t.1)]) S aq rfl zFO rfl rfl) ?_)
   exact rfl
  refine CF ar<|Wk<|Ws<|Wg<|Le<|A<|We ?_
  rcases condE k with ⟨au,k⟩ | ⟨au,k⟩
  ·refine CT au ?_
   cases k
  refine CF au<|Wk<|Wx<|Ws<|Ws<|Wg<|Fb' bn ?_
  refine Lo 0 S<|We ?_
  rcases condE k with ⟨av,k⟩ | ⟨av,k⟩
  ·refine CT av ?_
   cases k
  refine CF av<|Wk<|Wx ?_
  obtain rfl:=oi k
  exact ⟨an,aq,bj,(S.pk [1,2])⟩
 intro f w hM
 rcases ax with _ | e
 ·obtain ⟨ay,az,bp,S⟩:=hM
  refine Ws<|Wg ?_
  refine WL.w (R.loadBN (i:=0) (vs:=[(int 3),(int (-1))]) S bp rfl zFO rfl rfl) ?_
  refine W.store (i:=1) [(int 3),(int (-1))] S az rfl rfl zFO rfl rfl (Nat.le_of_ble_eq_true rfl) rfl ?_
  intro cg S
  refine We ?_
  obtain rfl:=oi h
  refine WP.ret (Out.one rfl S (Res.cellB (i:=1) (cs:=[(int 3),(int (-1))]) S az rfl zFO rfl rfl) ?_)
  exact rfl
 exact hM.elim
theorem zAE {b:World} {c:Hp} (hw:Holds b c) (hG:Tryz.Gl b) (d:Str) (f:Str) {i:Addr} (j:At c i [(str f)]) {r:Bool} (h:zAD d f=some r) :
  Cb Tryz.prog 165 [(str d),(.pointer (some i))] b c r:=by
 refine CM 7 Tryz.func165 hw fun S=>?_
 refine Ws<|Wg<|A<|We<|Ws<|Wg<|M ?_
 refine Lq S j<|Na<|A<|We ?_
 exact WP.ret (Rb h S)
theorem zAB {k ws:World} {l Hs:Hp} {p:List Ent} (hG:Tryz.Gl k) (b:(List Str)) (q:(Str→Option Bool)) {v:Value} {en:Ent} {kd:FuncId} {cd:List Value} (S:St k l ws Hs (en :: p)) (RM:MR (α:=Str) Hs en 9 v b)
  (F:∀ {w:World} {H:Hp},Hs.le H→Holds w H→Tryz.Gl w→∀ (x0:Str) (rr:Bool),q x0=some rr→Con Tryz.prog kd ([(str x0)]++cd) w H (fun H' v=>v=(boo rr)))
  {r:List Str} (h:zAP b q=some r) :
  ConS Tryz.prog 164 [v,(.func (.func kd) #[] cd.toArray)] k l ws Hs p (fun H' v' L'=>∃ en',L'=[en']∧MR (α:=Str) H' en' 9 v' r):=by
 unfold zAP at h
 refine ConS.mk (N:=42) Tryz.func164 rfl rfl kr rfl<|Ws<|Wg<|A<|We<|Ws<|Wg<|M<|M<|B h fun i hi h=>?_
 replace h:=zHr h
 obtain ⟨H1,ad,ae,R1⟩:=S.view_ (i:=0) rfl RM
 refine W.callF S rfl (zAv ae (hG.post S.post) b q R1 (fun hle=>F (Hp.le.trans ad hle)) hi) ?_
 rintro _ w1 H2 rfl S
 refine A<|We<|Ws<|Ws<|Wg<|M<|Le<|We ?_
 unfold delR at h
 rcases condE h with ⟨hc,h⟩ | ⟨hc,h⟩
 ·refine CT hc<|Ws<|Wg<|M<|A<|We ?_
  obtain rfl:=oi h
  refine WP.ret (OutS.one (L':=[en]) rfl lr S rfl ?_)
  exact ⟨en,rfl,RM⟩
 refine CF hc<|Wk ?_
 rcases condE h with ⟨hb,h⟩ | ⟨hb,h⟩
 case inr=>cases h
 have hb:=of_decide_eq_true hb
 obtain ⟨c,rfl⟩:=Int.eq_ofNat_of_zero_le hb.1
 have ab:c<b.length:=by omega
 rcases RM with ⟨_,hnil,_⟩ | ⟨g,cap,cur0,cs0,rfl,rfl,hnc,hcm,hcs,htk,hC⟩
 ·subst hnil; exact absurd ab (Nat.not_lt_zero _)
 have D0:DelI Hs b cur0 (b.take c) (c+1):=DelI.start htk hC ab
 have hmax:b.length≤9223372036854775807:=by simp only [maxLen] at hcm; omega
 have ai:(b.take c).length=c:=by rw [List.length_take]; omega
 refine Ws<|Ws<|Wg<|M<|Lg<|A<|We ?_
 refine WP.cut (fun f w=>∃ (m:Nat) (cur:Array Value),f 0=.slice (some ⟨g,0,none⟩) b.length cap∧f 5=int r.length∧b.length≤m∧cur.size=cap*1∧DelI Hs b cur r m∧St k l w Hs (.obj g (.cells cur 9 (0,0)) :: p)) ?_ ?_
 ·refine Wb ?_
  refine WP.loopM (delL b q) (fun s f w=>∃ (m:Nat) (cur:Array Value),s.2=m∧f 0=.slice (some ⟨g,0,none⟩) b.length cap∧f 1=.func (.func kd) #[] cd.toArray∧f 5=int s.1.length∧f 6=int m∧cur.size=cap*1∧DelI Hs b cur s.1 m∧St k l w Hs (.obj g (.cells cur 9 (0,0)) :: p)) _ _ h ?_ ?_
  ·refine ⟨c+1,cur0,rfl,rfl,rfl,?_,?_,hcs,D0,S⟩
   ·show int c=int ((b.take (Int.toNat c)).length:Nat)
    rw [Int.toNat_natCast,ai]
   show int (wr ((c:Int)+1))=int ((c+1:Nat):Int)
   rw [wr_eq ⟨by omega,by omega⟩]; rfl
  rintro ⟨K,mi⟩ f w ⟨m,cur,rfl,d,u,j,t,hsz,D,S⟩ y hy hyr
  unfold delL at hy
  refine Ws<|Ws<|Wg<|M' t<|M' d<|Nv<|La<|We ?_
  rcases condE hy with ⟨hcm,hy⟩ | ⟨hcm,hy⟩
  ·refine CT hcm<|Wk ?_
   have hmn:m<b.length:=by have:=of_decide_eq_true hcm; omega
   refine B hy fun x hx hy=>?_
   obtain rfl:b[m]=x:=by
    unfold xnth at hx
    rw [if_pos (by omega)] at hx
    have:=(List.getElem?_eq_some_iff.1 hx).2
    exact this
   obtain ⟨_,ac,_,rfl⟩:=D.look hmn
   refine Ws<|Wb<|Ws<|Wg<|M' d<|M' t ?_
   refine WL.w (R.idxN (m:=(m:Int)) rfl rfl el45 ⟨by omega,by omega⟩) ?_
   refine WL.w (R.loadO1 (i:=0) (o:=m*1) (v:=str b[m]) S rfl rfl lay9 ac)<|A<|We<|Ws<|Wg ?_
   refine M' u<|M<|B hy fun bb hbb hy=>?_
   refine W.callvF S rfl rfl (F lr S.holds (hG.post S.post) b[m] bb hbb) ?_
   rintro _ ap aq rfl S
   refine No<|We ?_
   cases bb with
   | true =>
    refine CF rfl<|Wk<|Wg<|M' t<|Lg<|A<|We ?_
    obtain rfl:=oi hy
    refine ⟨rfl,m+1,cur,rfl,d,u,j,?_,hsz,D.skip hmn,S⟩
    show int (wr ((m:Int)+1))=int ((m+1:Nat):Int)
    rw [wr_eq ⟨by omega,by omega⟩]; rfl
   | false =>
    refine CT rfl<|Ws<|Wg<|M' d<|M' j<|M ?_
    have hKm:K.length<m:=D.1
    refine WL.w (R.idxN (m:=(K.length:Int)) rfl rfl el45 ⟨by omega,by omega⟩) ?_
    refine W.storeO (i:=0) (o:=K.length*1) S rfl rfl rfl lay9 rfl rfl (by omega) ?_
    intro ar cur' hcur S
    have hcur:cur'.toList=cur.toList.take (K.length*1)++[str b[m]]++cur.toList.drop (K.length*1+1):=hcur
    have D2:=D.keep hmn ac hcur
    refine We<|Wg<|M' j<|Lg<|A<|We<|Wg<|M' t<|Lg<|A<|We ?_
    obtain rfl:=oi hy
    refine ⟨rfl,m+1,cur',rfl,d,u,?_,?_,?_,D2,S⟩
    ·show int (wr ((K.length:Int)+1))=int (((K++[b[m]]).length:Nat):Int)
     rw [wr_eq ⟨by omega,by omega⟩,List.length_append]; rfl
    ·show int (wr ((m:Int)+1))=int ((m+1:Nat):Int)
     rw [wr_eq ⟨by omega,by omega⟩]; rfl
    rw [← Array.length_toList,hcur]
    simp only [List.length_append,List.length_take,List.length_drop,List.length_cons,List.length_nil]
    have hcl:cur.toList.length=cap*1:=hsz
    rw [hcl]
    omega
  refine CF hcm<|Wx ?_
  obtain rfl:=oi hy
  obtain rfl:=hyr
  have hcm:=of_decide_eq_false hcm
  exact ⟨m,cur,d,j,by omega,hsz,D,S⟩
 rintro f w ⟨m,cur,d,j,hm,hsz,D,S⟩
 have hKm:=D.1
 have hmp:=D.2.1
 obtain ⟨kc,hkc,hkC⟩:=D.front
 refine Ws<|Wg<|M' d<|M' j ?_
 refine WL.w (R.sliceLo rfl rfl el45 (by omega) (by omega))<|W.clearO (α:=Str) (i:=0) S el45 (fun z hz=>by rw [zer9] at hz; obtain rfl:=oi hz; rfl) rfl rfl (by show r.length*1+(b.length - r.length)*1≤cur.size; omega) ?_
 intro au cur2 ak al S
 refine We<|Ws<|Wg<|M' d<|M' j ?_
 refine WL.w (R.sliceHi rfl rfl el45 (by omega))<|A<|We ?_
 refine WP.ret (OutS.one (L':=[.obj g (.cells cur2 9 (0,0))]) rfl lr S rfl ?_)
 exact ⟨_,rfl,.inr ⟨g,cap,cur2,kc,rfl,rfl,by omega,hcm,by rw [ak]; exact hsz,al.trans hkc,hkC⟩⟩
theorem zB3 {d:World} {c:Hp} (hw:Holds d c) (hG:Tryz.Gl d) (b:GField) (j:(GField→Option Bool)) {k:Addr} {kc_x0:FuncId} {cc_x0:List Value} (l:At c k [(.func (.func kc_x0) #[] cc_x0.toArray)]) (Fc_x0:∀ {w:World} {H:Hp},c.le H→Holds w H→Tryz.Gl w→∀ (f:GField) (rr:Bool),j f=some rr→Con Tryz.prog kc_x0 ([(agg [(str f.fName),(str f.fValue)])]++cc_x0) w H (fun H' v=>v=(boo rr))) {r:Bool} (h:zA8 b j=some r) :
  Cb Tryz.prog 234 [(agg [(str b.fName),(str b.fValue)]),(.pointer (some k))] d c r:=by
 refine CM 8 Tryz.func234 hw fun S=>?_
 refine Ws<|Wg ?_
 refine W.box [(str b.fName),(str b.fValue)] S rfl rfl ?_
 intro p q S
 refine A<|We<|Ws<|Wg ?_
 refine Lq S l ?_
 refine WL.w (R.loadBN (i:=0) (vs:=[(str b.fName),(str b.fValue)]) S rfl rfl lay68 rfl rfl)<|B h fun t o h=>W.callv S rfl rfl (Fc_x0 (S.post.le) S.holds (hG.post S.post) b _ o) ?_
 rintro u x z aa S rfl
 refine No<|A<|We ?_
 exact WP.ret (Rb h S)
theorem zFG {c:World} {d:Hp} (hw:Holds c d) (hG:Tryz.Gl c) (f:(List GField)) (j:Str) {l:Value} (b:Sl d l f) {r:(List GField)} (h:zBP f j=some r) :
  Con Tryz.prog 168 [l,(str j)] c d (fun H' v=>Sl H' v r):=by
 refine CM 11 Tryz.func168 hw fun S=>?_
 refine Ws<|Wg<|A<|We<|Ws<|Wg<|M<|B h fun o u h=>W.call S rfl (zAl S.holds (hG.post S.post) j u) ?_
 rintro v2 w3 H4 x S ⟨kr1,cr1,rfl,Fr1⟩
 have b:=b.up x
 refine W.alloc [.nilFunc] S zJH ?_
 intro p w7 S
 refine W.store (i:=0) [(.func (.func kr1) #[] cr1.toArray)] S rfl rfl rfl zII rfl rfl (Nat.le_of_ble_eq_true rfl) rfl ?_
 intro w8 S
 refine We<|Ws<|Wg<|M ?_
 obtain ⟨q,t,z,_,S⟩:=S.settle (i:=0) rfl
 replace S:St c d _ q []:=S
 have aa:At q ⟨p,0,none⟩ [(.func (.func kr1) #[] cr1.toArray)]:=⟨_,_,rfl,z,[],by simp⟩
 have b:=b.up t
 refine WL.w (R.mkFunc (vs:=[(.pointer (some ⟨p,0,none⟩))]) rfl)<|B h fun ak ab h=>W.call S rfl (zBc S.holds (hG.post S.post) f (fun k=>zA8 k o) b (fun hle hw hG k r h=>zB3 hw hG k o (At.mono aa hle (by simp)) (fun ac=>Fr1 (Hp.le.trans (Hp.le.trans t hle) ac)) h) ab) ?_
 rintro al am an ao S ad
 refine A<|We ?_
 exact WP.ret (Rl h S ad)
theorem zB9 {b:World} {d:Hp} (hw:Holds b d) (hG:Tryz.Gl b) (c:Int) {r:Str} (h:zCG c=some r) :
  Cs Tryz.prog 103 [(int c)] b d r:=by
 refine CM 5 Tryz.func103 hw fun S=>?_
 refine Ws<|Wg<|A<|We<|Ws<|Wg<|M<|B h fun i f h=>W.call S rfl (zCD S.holds (hG.post S.post) c f) ?_
 rintro j k l o S rfl
 refine A<|We ?_
 exact WP.ret (Rs h S)
theorem zAM {d:World} {f:Hp} (hw:Holds d f) (hG:Tryz.Gl d) (k:(List GField)) (j:Int) (l:Str) {o:Value} (p:Sl f o k) {r:(List GField)} (h:zGF k j l=some r) :
  Con Tryz.prog 122 [o,(int j),(str l)] d f (fun H' v=>Sl H' v r):=by
 refine CM 20 Tryz.func122 hw fun S=>?_
 refine Ws<|Wg<|A<|We<|Ws<|Wg<|M ?_
 have S:=S.addNil 68 2
 refine B h fun l1 q h=>W.app (α:=GField) (i:=0) S el22 rfl rfl rfl Sl.nil p q ?_
 intro v2 w3 H4 ak b S
 refine A<|We<|Ws<|Wg<|M<|M<|B h fun r7 t h=>W.call S rfl (zB9 S.holds (hG.post S.post) j t) ?_
 rintro v8 w9 ao u S rfl
 have b:=b.up u
 refine B h fun ap x h=>Je x<|B h fun aq z h=>Je z<|M<|B h fun c aa h=>Je aa ?_
 refine WL.w (R.build [(0,(str [86,105,97])),(1,(str c))] [(str [86,105,97]),(str c)] bp68 zer68 rfl rfl)<|W.bslice (α:=GField) [(agg [(str [86,105,97]),(str c)])] ([(⟨[86,105,97],c⟩:GField)]:List GField) S el22 rfl rfl rfl (by decide) (Go.Eng.encS ⟨rfl,rfl⟩ enc0) ?_
 intro ar au av ab ac S
 have b:=b.up ab
 refine B h fun aw ad h=>W.app (α:=GField) (i:=1) S el22 rfl rfl rfl b ac ad ?_
 intro ax ay az a0 ae S
 refine A<|We ?_
 exact WP.ret (Rl h S ae)
theorem zEo {o ws:World} {t Hs:Hp} {u:List Ent} (hG:Tryz.Gl o) (p:(List GField)) (ad:(GField→Option Bool)) {x:Value} {kp_keep:FuncId} {cp_keep:List Value} (S:St o t ws Hs (u)) (c:Sl Hs x p) (Fp_keep:∀ {w:World} {H:Hp},Hs.le H→Holds w H→Tryz.Gl w→∀ (x0:GField) (rr:Bool),ad x0=some rr→Con Tryz.prog kp_keep ([(agg [(str x0.fName),(str x0.fValue)])]++cp_keep) w H (fun H' v=>v=(boo rr))) {r:(List GField)} (h:zA3 p ad=some r) :
  ConS Tryz.prog 171 [x,(.func (.func kp_keep) #[] cp_keep.toArray)] o t ws Hs u (fun H' v L'=>∃ u1:Value,L'=[.row u1 68 2 r.length]∧v=u1∧Sl H' u1 r):=by
 refine ConS.mk (N:=23) Tryz.func171 rfl rfl kr rfl<|Ws<|Wg<|A<|We<|Ws<|Wg<|A<|We<|Ws<|Ws<|Wg ?_
 refine M<|Nq c<|M<|We ?_
 have S:=S.addNil 68 2
 refine B h fun z au h=>WP.cut (fun f w=>∃ (aa:Hp) (q:Value),f 5=q∧Sl aa q z∧Hp.le Hs aa∧St o t w aa (.row q 68 2 z.length :: u)) ?_ ?_
 ·refine Wb ?_
  refine WP.loopM (zBY p ad) (fun s f w=>match s with | (ah,ap)=>∃ (k:Hp) (l:Value),f 1=(.func (.func kp_keep) #[] cp_keep.toArray)∧f 5=l∧f 8=x∧f 9=(int (p.length:Int))∧f 10=(int ap)∧Sl k l ah∧Sl k x p∧Hp.le Hs k∧St o t w k (.row l 68 2 ah.length :: u)) (([]:List GField),0) z (lfW au) ?_ ?_
  ·exact ⟨Hs,.slice none 0 0,rfl,rfl,rfl,rfl,rfl,Sl.nil,c,lr,S⟩
  intro s f w hI a8 b av
  obtain ⟨ah,ap⟩:=s
  obtain ⟨k,l,h2,h6,h7,h8,ab,j,c,ac,S⟩:=hI
  refine Ws<|Wg<|La' ab h8<|We<|Ws ?_
  rcases condE b with ⟨am,b⟩ | ⟨am,b⟩
  ·refine CT am<|Wk<|Ws<|Wb<|Ws<|Wg<|B b fun d aw b=>W.idx (α:=GField) c h7 ab el22 aw ?_
   rintro a9 _ ax rfl
   refine WL.w (R.loadHN (vs:=[(str d.fName),(str d.fValue)]) S rfl ax lay68 rfl rfl) ?_
   refine W.alloc [(str []),(str [])] S zer68 ?_
   intro ba bb S
   refine W.store (i:=0) [(str d.fName),(str d.fValue)] S rfl rfl rfl lay68 rfl rfl (Nat.le_of_ble_eq_true rfl) rfl ?_
   intro bc S
   refine We<|Ws<|Wg<|M' h2 ?_
   refine WL.w (R.loadBN (i:=0) (vs:=[(str d.fName),(str d.fValue)]) S rfl rfl lay68 rfl rfl)<|B b fun bd ay b=>W.callv S rfl rfl (Fp_keep ac S.holds (hG.post S.post) d _ ay) ?_
   rintro be bf az an S rfl
   have ⟨j,c⟩:=U2 an j c
   refine We ?_
   rcases condE b with ⟨ao,b⟩ | ⟨ao,b⟩
   ·refine CT ao<|Wg<|M' h6 ?_
    refine WL.w (R.loadBN (i:=0) (vs:=[(str d.fName),(str d.fValue)]) S rfl rfl lay68 rfl rfl)<|W.bslice (α:=GField) [(agg [(str d.fName),(str d.fValue)])] ([d]:List GField) S el22 rfl rfl rfl (by decide) (Go.Eng.encS ⟨rfl,rfl⟩ enc0) ?_
    intro bg bh bi aq a0 S
    have ⟨j,c⟩:=U2 aq j c
    refine B b fun bj a1 b=>W.app (α:=GField) (i:=2) S el22 rfl rfl rfl j a0 a1 ?_
    intro a2 bk a3 ar a4 S
    have ⟨j,c⟩:=U2 ar j c
    refine A<|We<|Wg<|Lg' ab rfl<|M<|We ?_
    obtain rfl:=oi b
    exact ⟨rfl,⟨a3,a2,h2,rfl,h7,h8,rfl,a4,c,(((ac.trans an).trans aq).trans ar),(S.pt 3 [2])⟩⟩
   refine CF ao<|Wk<|Wg<|Lg' ab rfl<|M<|We ?_
   obtain rfl:=oi b
   exact ⟨rfl,⟨az,l,h2,h6,h7,h8,rfl,j,c,(ac.trans an),(S.pt 2 [1])⟩⟩
  refine CF am<|Wx ?_
  obtain rfl:=oi b
  obtain rfl:=av
  exact ⟨k,l,h6,j,ac,S⟩
 rintro f w ⟨aa,q,a5,a6,a7,S⟩
 refine Ws<|Wg<|M' a5<|A<|We ?_
 obtain rfl:=oi h
 refine WP.ret (OutS.one (L':=[.row q 68 2 z.length]) rfl a7 S rfl ?_)
 exact ⟨_,rfl,rfl,a6⟩
theorem zEk {b ws:World} {d Hs:Hp} {f:List Ent} (hG:Tryz.Gl b) (j:(List GField)) (k:Str) {q:Value} (S:St b d ws Hs (f)) (c:Sl Hs q j) {r:(List GField)} (h:zBP j k=some r) :
  ConS Tryz.prog 168 [q,(str k)] b d ws Hs f (fun H' v L'=>∃ l:Value,L'=[.row l 68 2 r.length]∧v=l∧Sl H' l r):=by
 refine ConS.mk (N:=11) Tryz.func168 rfl rfl kr rfl<|Ws<|Wg<|A<|We<|Ws<|Wg<|M<|B h fun t ac h=>W.call S rfl (zAl S.holds (hG.post S.post) k ac) ?_
 rintro v2 w3 H4 u S ⟨kr1,cr1,rfl,Fr1⟩
 have c:=c.up u
 refine W.alloc [.nilFunc] S zJH ?_
 intro x w7 S
 refine W.store (i:=0) [(.func (.func kr1) #[] cr1.toArray)] S rfl rfl rfl zII rfl rfl (Nat.le_of_ble_eq_true rfl) rfl ?_
 intro w8 S
 refine We<|Ws<|Wg<|M ?_
 obtain ⟨z,o,ad,_,S⟩:=S.settle (i:=0) rfl
 replace S:St b d _ z (f):=S
 have ae:At z ⟨x,0,none⟩ [(.func (.func kr1) #[] cr1.toArray)]:=⟨_,_,rfl,ad,[],by simp⟩
 have c:=c.up o
 refine WL.w (R.mkFunc (vs:=[(.pointer (some ⟨x,0,none⟩))]) rfl)<|B h fun aa af h=>W.callS rfl (zEo hG j (fun p=>zA8 p t) S c (fun hle hw hG p r h=>zB3 hw hG p t (At.mono ae hle (by simp)) (fun ah=>Fr1 (Hp.le.trans (Hp.le.trans o hle) ah)) h) af) ?_
 rintro ab aq ai ar aj S ⟨_,rfl,rfl,ak⟩
 replace S:St b d _ ai (.row ab 68 2 aa.length :: f):=S
 refine A<|We ?_
 obtain rfl:=oi h
 refine WP.ret (OutS.one (L':=[.row ab 68 2 aa.length]) rfl ((u.trans o).trans aj) S rfl ?_)
 exact ⟨_,rfl,rfl,ak⟩
theorem zDr {z:World} {o:Hp} (hw:Holds z o) (hG:Tryz.Gl z) (b:GEntry) (af:Int) (ac:Str) {p:Value} {q:Value} {t:Value} {u:Value} (d:Sl o p b.fKeys) (j:Sl o q b.fVary) (k:Sl o t b.fSnapshot) (c:Sl o u b.fFields) {r:GResponse} (h:zDQ b af ac=some r) :
  Con Tryz.prog 100 [(agg [p,q,t,(str b.fReason),u,(str b.fBody),(int b.fRequested),(int b.fReceived)]),(int af),(str ac)] z o (fun H' v=>∃ u1:Value,v=(agg [(int r.fMinor),(int r.fStatus),(str r.fReason),u1,(str r.fBody)])∧Sl H' u1 r.fFields):=by
 refine CM 24 Tryz.func100 hw fun S=>?_
 refine Ws<|Wg ?_
 refine W.box [p,q,t,(str b.fReason),u,(str b.fBody),(int b.fRequested),(int b.fReceived)] S rfl rfl ?_
 intro b1 w2 S
 refine W.alloc [(int 0),(int 0),(str []),(.slice none 0 0),(str [])] S zer24 ?_
 intro b3 w4 S
 refine We<|Ws<|Wg<|Fb ?_
 refine Lo 1 S<|B h fun r5 ap h=>W.callS rfl (zEk hG b.fFields [65,103,101] S c ap) ?_
 rintro v6 w7 H8 bb au S ⟨_,rfl,rfl,aa⟩
 replace S:St z o _ H8 [.row v6 68 2 r5.length,.box b3 24 [(int 0),(int 0),(str []),(.slice none 0 0),(str [])],.box b1 92 [p,q,t,(str b.fReason),u,(str b.fBody),(int b.fRequested),(int b.fReceived)]]:=S
 have ⟨d,j,k,c⟩:=U4 au d j k c
 refine M<|B h fun ad av h=>W.call S rfl (zB9 S.holds (hG.post S.post) af av) ?_
 rintro bc bd be aw S rfl
 have ⟨d,j,k,c,aa⟩:=U5 aw d j k c aa
 refine WL.w (R.build [(0,(str [65,103,101])),(1,(str ad))] [(str [65,103,101]),(str ad)] bp68 zer68 rfl rfl)<|W.bslice (α:=GField) [(agg [(str [65,103,101]),(str ad)])] ([(⟨[65,103,101],ad⟩:GField)]:List GField) S el22 rfl rfl rfl (by decide) (Go.Eng.encS ⟨rfl,rfl⟩ enc0) ?_
 intro bf bg bh ax ay S
 have ⟨d,j,k,c,aa⟩:=U5 ax d j k c aa
 refine B h fun az a0 h=>W.app (α:=GField) (i:=1) S el22 rfl rfl rfl aa ay a0 ?_
 intro a1 bi an a2 a3 S
 have ⟨d,j,k,c⟩:=U4 a2 d j k c
 refine A<|We<|Ws<|B h fun a4 a5 h=>WP.cut (fun f w=>∃ (x:Hp) (ae:Value),f 6=(ptr b3 0)∧Sl x ae a4∧Sl x p b.fKeys∧Sl x q b.fVary∧Sl x t b.fSnapshot∧Sl x u b.fFields∧St z o w x [.box b3 24 [(int 1),(int 200),(str b.fReason),ae,(str b.fBody)],.box b1 92 [p,q,t,(str b.fReason),u,(str b.fBody),(int b.fRequested),(int b.fReceived)]]) ?_ ?_
 ·refine WP.drawC (Cl z o an [.box b1 92 [p,q,t,(str b.fReason),u,(str b.fBody),(int b.fRequested),(int b.fReceived)]]) kr 9 rfl (bm 9 0) rfl ?_
  have S:=S.drew
  refine Ct 0 9 1 rfl (fun _ _=>(R.fieldB rfl zIX)) ?_
  refine Ct 1 9 3 rfl (fun w hw=>by obtain ⟨_,hq,S⟩:=hw; exact (R.loadB (i:=0) (v:=str b.fReason) S rfl rfl lay9 rfl)) ?_
  refine Ct 2 9 7 rfl (fun _ _=>(R.mv (v:=a1) rfl)) ?_
  refine Ct 3 9 15 rfl (fun _ _=>(R.mv (v:=str ac) rfl)) ?_
  refine Ct 5 9 47 rfl (fun _ _=>(R.fieldB rfl zIM)) ?_
  refine Ct 6 9 111 rfl (fun w hw=>by obtain ⟨_,hq,S⟩:=hw; exact (R.loadB (i:=0) (v:=str b.fBody) S rfl rfl lay9 rfl)) ?_
  refine Cx [4] ⟨an,lr,(S.pk [3])⟩ (all1 ?_)
  refine Nx 9 127 rfl<|W.call S rfl (zAM S.holds (hG.post S.post) az 1 ac a3 a5) ?_
  rintro ab bj aj ak S al
  have ⟨d,j,k,c⟩:=U4 ak d j k c
  refine We ?_
  refine Ct 7 9 255 rfl (fun _ _=>(R.build [(0,(int 1)),(1,(int 200)),(2,(str b.fReason)),(3,ab),(4,(str b.fBody))] [(int 1),(int 200),(str b.fReason),ab,(str b.fBody)] bp24 zer24 kr (by obtain ⟨_,_,rfl,_⟩:=al; rfl))) ?_
  refine Cx [8] ⟨aj,ak,(S.pk [3])⟩ (all1 ?_)
  refine Nx 9 511 rfl ?_
  refine W.store (i:=2) [(int 1),(int 200),(str b.fReason),ab,(str b.fBody)] S rfl rfl rfl lay24 rfl (AllOne.all (l:=[(int 1),(int 200),(str b.fReason),ab,(str b.fBody)]) (.cons rfl (.cons rfl (.cons rfl (.cons (Sl.oneC al) (.cons rfl .nil)))))) (Nat.le_of_ble_eq_true rfl) rfl ?_
  intro bk S
  refine We<|WC.done ⟨aj,ak,(S.pk [3])⟩ kr ?_
  exact ⟨aj,ab,rfl,al,d,j,k,c,(S.pk [2,3])⟩
 rintro f w ⟨x,ae,a6,a7,bn,bo,bp,bq,S⟩
 obtain rfl:=oi h
 refine WP.ret (Out.one rfl S (Res.cellB (i:=0) (cs:=[(int 1),(int 200),(str b.fReason),ae,(str b.fBody)]) S a6 rfl lay24 rfl rfl) ?_)
 exact ⟨_,rfl,a7⟩
theorem zF4 {x:World} {d:Hp} (hw:Holds x d) (hG:Tryz.Gl x) (b:GEntry) (z:Int) (aa:Str) {f:Value} {j:Value} {k:Value} {o:Value} (p:Sl d f b.fKeys) (q:Sl d j b.fVary) (t:Sl d k b.fSnapshot) (u:Sl d o b.fFields) {r:GResponse} (h:zEi b z aa=some r) :
  Con Tryz.prog 55 [(agg [f,j,k,(str b.fReason),o,(str b.fBody),(int b.fRequested),(int b.fReceived)]),(int z),(str aa)] x d (fun H' v=>∃ u1:Value,v=(agg [(int r.fMinor),(int r.fStatus),(str r.fReason),u1,(str r.fBody)])∧Sl H' u1 r.fFields):=by
 refine CM 13 Tryz.func55 hw fun S=>?_
 refine Ws<|Wg ?_
 refine W.box [f,j,k,(str b.fReason),o,(str b.fBody),(int b.fRequested),(int b.fReceived)] S rfl rfl ?_
 intro b1 w2 S
 refine W.alloc [(int 0),(int 0),(str []),(.slice none 0 0),(str [])] S zer24 ?_
 intro b3 w4 S
 refine We<|Ws<|WP.quietTail 5 S kr kr ?_
 refine WQ.val (fun w hw=>by obtain ⟨_,hq,S⟩:=hw; exact (R.loadBN (i:=1) (vs:=[f,j,k,(str b.fReason),o,(str b.fBody),(int b.fRequested),(int b.fReceived)]) S rfl rfl lay92 rfl rfl)) ?_
 refine WQ.val (fun w hw=>by obtain ⟨_,hq,S⟩:=hw; exact (R.loadBN (i:=1) (vs:=[f,j,k,(str b.fReason),o,(str b.fBody),(int b.fRequested),(int b.fReceived)]) S rfl rfl lay92 rfl rfl))<|QM<|B h fun r8 af h=>WQ.call (v:=int r8) rfl (fun w H' hq S=>zFy S.holds (hG.post S.post) b z (p.up hq) (q.up hq) (t.up hq) (u.up hq) af)<|QM<|WQ.nil ?_
 intro w5 H6 ah S
 have ⟨p,q,t,u⟩:=U4 ah p q t u
 refine B h fun c ai h=>W.call S rfl (zDr S.holds (hG.post S.post) b r8 aa p q t u ai) ?_
 rintro ap aq ar au S ⟨ab,rfl,ae⟩
 refine W.store (i:=0) [(int c.fMinor),(int c.fStatus),(str c.fReason),ab,(str c.fBody)] S rfl rfl rfl lay24 rfl (AllOne.all (l:=[(int c.fMinor),(int c.fStatus),(str c.fReason),ab,(str c.fBody)]) (.cons rfl (.cons rfl (.cons rfl (.cons (Sl.oneC ae) (.cons rfl .nil)))))) (Nat.le_of_ble_eq_true rfl) rfl ?_
 intro av S
 refine We ?_
 obtain rfl:=oi h
 refine WP.ret (Out.one rfl S (Res.cellB (i:=0) (cs:=[(int c.fMinor),(int c.fStatus),(str c.fReason),ab,(str c.fBody)]) S rfl rfl lay24 rfl rfl) ?_)
 exact ⟨_,rfl,ae⟩
theorem zDC {b:World} {c:Hp} (hw:Holds b c) (hG:Tryz.Gl b) (d:(List GField)) (f:Str) {i:Value} (j:Sl c i d) {r:(Str×Int×Bool)} (h:zCW d f=some r) :
  Con Tryz.prog 110 [i,(str f)] b c (fun H' v=>v=(.tuple ⟨[(str r.1),(int r.2.1),(boo r.2.2)]⟩)):=by
 refine CM 25 Tryz.func110 hw fun S=>?_
 refine Ws<|Wg<|A<|A<|A<|We<|Ws<|Wg<|M<|M<|B h fun k l h=>W.call S rfl (zA7 S.holds (hG.post S.post) d f j l) ?_
 rintro p q t u S rfl
 refine M ?_
 refine Ex ?_
 refine Ex<|A<|A<|We<|Ws<|Wg<|M<|B h fun x o h=>W.call S rfl (zFT S.holds (hG.post S.post) k.1 o) ?_
 rintro z w8 H9 ac S rfl
 refine M ?_
 refine Ex ?_
 refine Ex<|A<|A<|We<|Ws<|Wg<|M<|M<|M<|A ?_
 refine A<|A<|We ?_
 obtain rfl:=oi h
 refine WP.ret (Out.three rfl S rfl rfl rfl ?_)
 exact rfl
theorem zDg {t:World} {o:Hp} (hw:Holds t o) (hG:Tryz.Gl t) (b:GRequest) (c:GResponse) {u:Value} {v:Value} (p:Sl o u b.fFields) (k:Sl o v c.fFields) {r:Bool} (h:zCE b c=some r) :
  Cb Tryz.prog 166 [(agg [(str b.fMethod),(str b.fTarget),(int b.fMinor),u,(str b.fBody)]),(agg [(int c.fMinor),(int c.fStatus),(str c.fReason),v,(str c.fBody)])] t o r:=by
 refine CM 88 Tryz.func166 hw fun S=>?_
 refine Ws<|Wg ?_
 refine W.box [(str b.fMethod),(str b.fTarget),(int b.fMinor),u,(str b.fBody)] S rfl rfl ?_
 intro b1 w2 S
 refine W.box [(int c.fMinor),(int c.fStatus),(str c.fReason),v,(str c.fBody)] S rfl rfl ?_
 intro b3 w4 S
 refine A<|We<|Ws<|Ws<|Wg<|Fb ?_
 refine Lo 1 S<|Nb<|M ?_
 refine WL.grp 4 [21,22,23] 24 (boo ((b.fMethod !=[71,69,84])&&(b.fMethod !=[72,69,65,68]))) ?_ ?_
 ·rcases boolE (b.fMethod !=[71,69,84]) with d | d
  ·refine Gy d<|Fb<|Gy d ?_
   refine Lo 1 S<|Gy d<|Nb<|Pt d ?_
   exact We ⟨(andT d),ag,rfl⟩
  refine Gn d<|Gn d<|Gn d<|Pf d ?_
  exact We ⟨(andF d),ag,rfl⟩
 intro us
 refine M ?_
 refine WL.grp 4 [26,27,28] 29 (boo (((b.fMethod !=[71,69,84])&&(b.fMethod !=[72,69,65,68]))||(c.fStatus !=200))) ?_ ?_
 ·rcases boolE ((b.fMethod !=[71,69,84])&&(b.fMethod !=[72,69,65,68])) with f | f
  ·refine Gn f<|Gn f<|Gn f<|Pt f ?_
   exact We ⟨(orT f),ag,rfl⟩
  refine Gy f<|Fb<|Gy f ?_
  refine Lo 0 S<|Gy f<|Lf<|Pf f ?_
  exact We ⟨(orF f),ag,rfl⟩
 intro us
 refine We ?_
 rcases condE h with ⟨x,h⟩ | ⟨x,h⟩
 ·refine CT x ?_
  cases h
 refine CF x<|Wk<|Ws<|Ws<|Wg<|Fb ?_
 refine Lo 1 S<|B h fun ak aa h=>W.call S rfl (zAj S.holds (hG.post S.post) b.fFields [73,102,45,78,111,110,101,45,77,97,116,99,104] p aa) ?_
 rintro al am an ab S rfl
 have ⟨p,k⟩:=U2 ab p k
 refine We ?_
 rcases condE h with ⟨z,h⟩ | ⟨z,h⟩
 ·refine CT z ?_
  cases h
 refine CF z<|Wk<|Ws<|Wg<|Fb ?_
 refine Lo 1 S<|B h fun l ac h=>W.call S rfl (zDC S.holds (hG.post S.post) b.fFields [73,102,45,77,111,100,105,102,105,101,100,45,83,105,110,99,101] p ac) ?_
 rintro ao ap aq ad S rfl
 have k:=k.up ad
 refine M ?_
 refine Ex ?_
 refine Ex ?_
 refine Ex<|A<|A<|A<|We<|Ws<|Wg<|Fb ?_
 refine Lo 0 S<|B h fun q ae h=>W.call S rfl (zDC S.holds (hG.post S.post) c.fFields [76,97,115,116,45,77,111,100,105,102,105,101,100] k ae) ?_
 rintro ar au av aw S rfl
 refine M ?_
 refine Ex ?_
 refine Ex ?_
 refine Ex<|A<|A<|A<|We<|Ws<|Wg<|M<|M ?_
 refine WL.grp 2 [81] 82 (boo (l.2.2&&q.2.2)) ?_ ?_
 ·rcases boolE l.2.2 with j | j
  ·refine Gy j<|M<|Pt j ?_
   exact We ⟨(andT j),ag,rfl⟩
  refine Gn j<|Pf j ?_
  exact We ⟨(andF j),ag,rfl⟩
 intro us
 refine M ?_
 refine WL.grp 4 [84,85,86] 87 (boo ((l.2.2&&q.2.2)&&(decide (q.2.1≤l.2.1)))) ?_ ?_
 ·rcases boolE (l.2.2&&q.2.2) with i | i
  ·refine Gy i<|M<|Gy i<|M<|Gy i<|Lb<|Pt i ?_
   exact We ⟨(andT i),ag,rfl⟩
  refine Gn i<|Gn i<|Gn i<|Pf i ?_
  exact We ⟨(andF i),ag,rfl⟩
 intro us
 refine A<|We ?_
 exact WP.ret (Rb h S)
theorem zFW {p:World} {o:Hp} (hw:Holds p o) (hG:Tryz.Gl p) (q:Str) {r:(Int×Bool)} (h:zDu q=some r) :
  Con Tryz.prog 240 [(str q)] p o (fun H' v=>v=(.tuple ⟨[(int r.1),(boo r.2)]⟩)):=by
 refine CM 37 Tryz.func240 hw fun S=>?_
 refine Ws<|Wg<|A<|A<|We<|Ws<|Ws<|Wg<|M<|Ns<|Lf<|M<|B h fun u k h=>WL.grp 4 [10,11,12] 13 (boo u) ?_ ?_
 ·rcases boolE ((q.length:Int) !=3) with d | d
  ·replace k:=condT k d
   refine Gn d<|Gn d<|Gn d<|Pt d ?_
   exact We ⟨(ob k),ag,rfl⟩
  replace k:=condF k d
  refine Gy d<|M<|Gy d<|B k fun c3 ac k=>Ja ac<|Gy d<|Ma c3 49<|Pf d ?_
  exact We ⟨(ob k),ag,rfl⟩
 intro us
 refine M<|B h fun x l h=>WL.grp 4 [15,16,17] 18 (boo x) ?_ ?_
 ·rcases boolE u with f | f
  ·replace l:=condT l f
   refine Gn f<|Gn f<|Gn f<|Pt f ?_
   exact We ⟨(ob l),ag,rfl⟩
  replace l:=condF l f
  refine Gy f<|M<|Gy f<|B l fun c7 ae l=>Ja ae<|Gy f<|Mc c7 53<|Pf f ?_
  exact We ⟨(ob l),ag,rfl⟩
 intro us
 refine M<|B h fun z i h=>WL.grpw 5 [20,21,22,23] 24 (boo z) (fun w=>∃ H':Hp,o.le H'∧St p o w H' []) ?_ ?_
 ·rcases boolE x with b | b
  ·replace i:=condT i b
   refine Gn b<|Gn b<|Gn b<|Gn b<|Pt b ?_
   exact We ⟨(ob i),ag,⟨o,lr,S⟩⟩
  replace i:=condF i b
  refine Gy b<|M<|Gy b<|B i fun af ah i=>Ja ah<|Gy b<|B i fun au ai i=>W.call S rfl (zA6 S.holds (hG.post S.post) af ai) ?_
  rintro av aw aj ak S rfl
  refine Gy b<|No<|Pf b ?_
  exact We ⟨(ob i),ag,⟨aj,ak,S⟩⟩
 intro us ax ⟨aa,ay,S⟩
 refine M<|B h fun al j h=>WL.grpw 5 [26,27,28,29] 30 (boo al) (fun w=>∃ H':Hp,aa.le H'∧St p o w H' []) ?_ ?_
 ·rcases boolE z with c | c
  ·replace j:=condT j c
   refine Gn c<|Gn c<|Gn c<|Gn c<|Pt c ?_
   exact We ⟨(ob j),ag,⟨aa,lr,S⟩⟩
  replace j:=condF j c
  refine Gy c<|M<|Gy c<|B j fun am an j=>Ja an<|Gy c<|B j fun az ao j=>W.call S rfl (zA6 S.holds (hG.post S.post) am ao) ?_
  rintro a0 a1 ap aq S rfl
  refine Gy c<|No<|Pf c ?_
  exact We ⟨(ob j),ag,⟨ap,aq,S⟩⟩
 intro us a2 ⟨a3,a4,S⟩
 refine We ?_
 rcases condE h with ⟨t,h⟩ | ⟨t,h⟩
 ·refine CT t ?_
  cases h
 refine CF t<|Wk<|Ws<|Wg<|M<|B h fun a5 ar h=>W.call S rfl (zA9 S.holds (hG.post S.post) q ar) ?_
 rintro a6 a7 a8 a9 S rfl
 refine M ?_
 refine Ex ?_
 refine Ex<|A<|A<|We<|Ws<|Wg<|M<|A<|A<|We ?_
 obtain rfl:=oi h
 refine WP.ret (Out.two rfl S rfl rfl ?_)
 exact rfl
end Go.Proofs
