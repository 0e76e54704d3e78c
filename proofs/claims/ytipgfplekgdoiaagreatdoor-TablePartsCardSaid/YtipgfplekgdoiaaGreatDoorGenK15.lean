/- A part. -/
import Derived.Test.YtipgfplekgdoiaaGreatDoorEng38
import Derived.Test.YtipgfplekgdoiaaGreatDoorEng36
import Derived.Test.YtipgfplekgdoiaaGreatDoorGenK14
namespace Go.Proofs
set_option maxHeartbeats 4000000
set_option maxRecDepth 10000
open Go.Eng Go.Eng.Pure
set_option linter.unusedVariables false
theorem zHC {u:World} {l:Hp} (hw:Holds u l) (i:GTable) (an:Int) {p:Value} {o:Value} (b:Sl l p i.fAxes) (c:Sl l o i.fEntries) {r:Bool} (h:zGL i an=some r) :
  Cb Tryz.prog 28 [(agg [p,o]),(int an)] u l r:=by
 refine CM 64 Tryz.func28 hw fun S=>?_
 refine Ws<|Wg ?_
 refine W.box [p,o] S rfl rfl ?_
 intro x w2 S
 refine A<|We<|Ws<|Ws<|Wg<|Fb ?_
 refine Lo 0 S<|Nq c<|M<|Lc<|M<|B h fun a4 z h=>WL.grpw 11 [13,14,15,16,17,18,19,20,21,22] 23 (boo a4) (fun w=>∃ H':Hp,l.le H'∧St u l w H' [.box x 25 [p,o]]) ?_ ?_
 ·rcases boolE (decide (an<(i.fEntries.length:Int))) with d | d
  ·replace z:=condT z d
   refine Gn d<|Gn d<|Gn d<|Gn d<|Gn d<|WL.gund rfl rfl<|WL.gund rfl rfl<|WL.gund rfl rfl<|WL.gund rfl rfl<|Gn d<|Pt d ?_
   exact We ⟨(ob z),ag,⟨l,lr,S⟩⟩
  replace z:=condF z d
  refine Gy d<|Fb<|Gy d ?_
  refine Lo 0 S<|Gy d<|Nq b<|Gy d<|Lc<|Gy d<|M<|B z fun a5 aa z=>WL.grpw 5 [18,19,20,21] 22 (boo a5) (fun w=>∃ H':Hp,l.le H'∧St u l w H' [.box x 25 [p,o]]) ?_ ?_
  ·rcases boolE (decide (0<(i.fAxes.length:Int))) with q | q
   ·replace aa:=condT aa q
    refine Gy q<|Fb<|Gy q ?_
    refine Lo 0 S<|Gy q<|B aa fun r7 a6 aa=>W.call S rfl (zJV S.holds i.fAxes b a6) ?_
    rintro v8 w9 a7 a0 S rfl
    have ⟨b,c⟩:=U2 a0 b c
    refine Gy q<|No<|Gy d<|Pt q ?_
    exact We ⟨(ob aa),ag,⟨a7,a0,S⟩⟩
   replace aa:=condF aa q
   refine Gn q<|Gn q<|Gn q<|Gn q<|Gy d<|Pf q ?_
   exact We ⟨(ob aa),ag,⟨l,lr,S⟩⟩
  intro us cp ⟨a8,a1,S⟩
  have ⟨b,c⟩:=U2 a1 b c
  refine Pf d ?_
  exact We ⟨(ob z),ag,⟨a8,a1,S⟩⟩
 intro us cq ⟨a9,ba,S⟩
 have ⟨b,c⟩:=U2 ba b c
 refine We ?_
 rcases condE h with ⟨ao,h⟩ | ⟨ao,h⟩
 ·refine CT ao<|Ws<|Wg<|A<|We ?_
  exact WP.ret (Rb h S)
 refine CF ao<|Wk<|Ws<|Ws<|Wg<|A<|We<|B h fun ap bb h=>WP.cut (fun f w=>match ap with | .inl _=>∃ (a2:Hp),St u l w a2 [] | .inr _=>False) ?_ ?_
 ·refine Wb ?_
  refine WP.loopM (zCJ i) (fun s f w=>match s with | ab=>∃ (ad:Hp),f 2=(ptr x 0)∧f 5=(int ab)∧Sl ad p i.fAxes∧Sl ad o i.fEntries∧St u l w ad [.box x 25 [p,o]]) 0 ap bb ?_ ?_
  ·exact ⟨a9,rfl,rfl,b,c,S⟩
  intro ab f w hI cr j aq
  obtain ⟨ad,ak,ar,b,c,S⟩:=hI
  refine Ws<|Ws<|Wg<|M' ar<|Fb' ak ?_
  refine Lo 0 S<|Nq c<|La<|We ?_
  rcases condE j with ⟨au,j⟩ | ⟨au,j⟩
  ·refine CT au<|Wk<|Ws<|Wb<|Ws<|Ws<|WP.quiet S kr kr<|QFb' ak ?_
   refine QB 0 p<|QFb' ak ?_
   refine QB 0 o<|QM' ar<|B j fun ae bc j=>WQ.idx (α:=GEntry) c rfl rfl el23 bc ?_
   rintro cs _ bd ⟨be,bf,bg,bh,rfl,bi,bj,bk,bn⟩
   refine WQ.val (fun w hw=>by obtain ⟨_,hq,S⟩:=hw; exact (R.loadHN (vs:=[be,bf,bg,(str ae.fReason),bh,(str ae.fBody),(int ae.fRequested),(int ae.fReceived)]) S rfl (At.mono bd hq (by simp)) lay36 rfl rfl))<|B j fun bo bp j=>WQ.call (v:=boo bo) rfl (fun w H' hq S=>zHI S.holds i.fAxes ae (b.up hq) (bi.up hq) (bj.up hq) (bk.up hq) (bn.up hq) bp)<|QNo<|WQ.nil ?_
   intro ct bq br S
   have ⟨c,b⟩:=U2 br c b
   rcases condE j with ⟨av,j⟩ | ⟨av,j⟩
   ·refine CT av<|Ws<|Wg<|A<|We ?_
    obtain rfl:=oi j
    obtain rfl:=aq
    exact WP.ret (Rb h S)
   refine CF av<|Wk<|Ws<|Wg<|A<|We<|B j fun aw bs j=>WP.cut (fun f w=>match aw with | .inl _=>∃ (af:Hp),f 2=(ptr x 0)∧f 5=(int ab)∧Sl af p i.fAxes∧Sl af o i.fEntries∧St u l w af [.box x 25 [p,o]] | .inr _=>False) ?_ ?_
   ·refine Wb ?_
    refine WP.loopM (zBN i ab) (fun s f w=>match s with | al=>∃ (ah:Hp),f 2=(ptr x 0)∧f 5=(int ab)∧f 6=(int al)∧Sl ah p i.fAxes∧Sl ah o i.fEntries∧St u l w ah [.box x 25 [p,o]]) 0 aw bs ?_ ?_
    ·exact ⟨bq,ak,ar,rfl,b,c,S⟩
    intro al f w hI cu k a3
    obtain ⟨ah,ac,am,ax,b,c,S⟩:=hI
    refine Ws<|Ws<|Wg<|M' ax<|M' am<|La<|M ?_
    refine WL.grp 5 [44,45,46,47] 48 (boo ((decide (al<ab))&&(decide (0<(i.fAxes.length:Int))))) ?_ ?_
    ·rcases boolE (decide (al<ab)) with t | t
     ·refine Gy t<|Fb' ac<|Gy t ?_
      refine Lo 0 S<|Gy t<|Nq b<|Gy t<|Lc<|Pt t ?_
      exact We ⟨(andT t),ag,rfl⟩
     refine Gn t<|Gn t<|Gn t<|Gn t<|Pf t ?_
     exact We ⟨(andF t),ag,rfl⟩
    intro us
    refine We ?_
    rcases condE k with ⟨ay,k⟩ | ⟨ay,k⟩
    ·refine CT ay<|Wk<|Ws<|Wb<|Ws<|WP.quiet S kr kr<|QFb' ac ?_
     refine QB 0 p<|QFb' ac ?_
     refine QB 0 o<|QM' am<|B k fun ai bt k=>WQ.idx (α:=GEntry) c rfl rfl el23 bt ?_
     rintro cv _ bu ⟨bv,bw,bx,bz,rfl,b0,b2,b3,b4⟩
     refine WQ.val (fun w hw=>by obtain ⟨_,hq,S⟩:=hw; exact (R.loadHN (vs:=[bv,bw,bx,(str ai.fReason),bz,(str ai.fBody),(int ai.fRequested),(int ai.fReceived)]) S rfl (At.mono bu hq (by simp)) lay36 rfl rfl))<|QFb' ac ?_
     refine QB 0 o<|QM' ax<|B k fun aj b5 k=>WQ.idx (α:=GEntry) c rfl rfl el23 b5 ?_
     rintro cw _ b6 ⟨b7,b8,b9,ca,rfl,cb,cc,cd,ce⟩
     refine WQ.val (fun w hw=>by obtain ⟨_,hq,S⟩:=hw; exact (R.loadHN (vs:=[b7,b8,b9,(str aj.fReason),ca,(str aj.fBody),(int aj.fRequested),(int aj.fReceived)]) S rfl (At.mono b6 hq (by simp)) lay36 rfl rfl))<|B k fun cf cg k=>WQ.call (v:=boo cf) rfl (fun w H' hq S=>zIF S.holds i.fAxes ai aj (b.up hq) (b0.up hq) (b2.up hq) (b3.up hq) (b4.up hq) (cb.up hq) (cc.up hq) (cd.up hq) (ce.up hq) cg)<|WQ.nil ?_
     intro cx ch ci S
     have ⟨b,c⟩:=U2 ci b c
     rcases condE k with ⟨az,k⟩ | ⟨az,k⟩
     ·refine CT az<|Ws<|Wg<|A<|We ?_
      obtain rfl:=oi k
      obtain rfl:=a3
      obtain rfl:=oi j
      obtain rfl:=aq
      exact WP.ret (Rb h S)
     refine CF az<|Wk<|Wg<|M' ax<|Lg<|A<|We ?_
     obtain rfl:=oi k
     exact ⟨rfl,⟨ch,ac,am,rfl,b,c,S⟩⟩
    refine CF ay<|Wx ?_
    obtain rfl:=oi k
    obtain rfl:=a3
    exact ⟨ah,ac,am,b,c,S⟩
   intro f w hM
   rcases aw with _ | e
   ·obtain ⟨af,cj,ck,b,c,S⟩:=hM
    refine Wg<|M' ck<|Lg<|A<|We ?_
    obtain rfl:=oi j
    exact ⟨rfl,⟨af,cj,rfl,b,c,S⟩⟩
   exact hM.elim
  refine CF au<|Wx ?_
  obtain rfl:=oi j
  obtain rfl:=aq
  exact ⟨ad,(S.pk [])⟩
 intro f w hM
 rcases ap with _ | e
 ·obtain ⟨a2,S⟩:=hM
  refine Ws<|Wg<|A<|We ?_
  exact WP.ret (Rb h S)
 exact hM.elim
theorem zBI {t:World} {c:Hp} (hw:Holds t c) (k:(List GAxis)) (u:(List GAxis)) (ad:(GAxis→GAxis→Option Bool)) {x:Value} {z:Value} {kp_eq:FuncId} {cp_eq:List Value} (d:Sl c x k) (j:Sl c z u) (Fp_eq:∀ {w:World} {H:Hp},c.le H→Holds w H→∀ (x0:GAxis) (x1:GAxis),∀ {al am:Value},Sl H al x0.fValues→Sl H am x1.fValues→∀ (rr:Bool),ad x0 x1=some rr→Con Tryz.prog kp_eq ([(agg [(str x0.fName),al]),(agg [(str x1.fName),am])]++cp_eq) w H (fun H' v=>v=(boo rr))) {r:Bool} (h:zAX k u ad=some r) :
  Cb Tryz.prog 81 [x,z,(.func (.func kp_eq) #[] cp_eq.toArray)] t c r:=by
 refine CM 32 Tryz.func81 hw fun S=>?_
 refine Ws<|Wg<|A<|We<|Ws<|Ws<|Wg<|M<|Nq d<|M<|Nq j<|Lf ?_
 refine We ?_
 rcases condE h with ⟨ah,h⟩ | ⟨ah,h⟩
 ·refine CT ah<|Ws<|Wg<|A<|We ?_
  exact WP.ret (Rb h S)
 refine CF ah<|Wk<|Ws<|Ws<|Wg<|M<|Nq d<|M<|We<|B h fun ai ay h=>WP.cut (fun f w=>match ai with | .inl _=>∃ (H9:Hp),St t c w H9 [] | .inr _=>False) ?_ ?_
 ·refine Wb ?_
  refine WP.loopM (zAO k u ad) (fun s f w=>match s with | ao=>∃ (o:Hp),f 1=z∧f 2=(.func (.func kp_eq) #[] cp_eq.toArray)∧f 15=x∧f 16=(int (k.length:Int))∧f 17=(int ao)∧Sl o z u∧Sl o x k∧St t c w o []) 0 ai ay ?_ ?_
  ·exact ⟨c,rfl,rfl,rfl,rfl,rfl,j,d,S⟩
  intro ao f w hI a6 b ap
  obtain ⟨o,h3,h4,h5,h6,h8,j,d,S⟩:=hI
  refine Ws<|Wg<|La' h8 h6<|We<|Ws ?_
  rcases condE b with ⟨aj,b⟩ | ⟨aj,b⟩
  ·refine CT aj<|Wk<|Ws<|Wb<|Ws<|Wg<|M' h8<|B b fun p az b=>W.idx (α:=GAxis) d h5 h8 el22 az ?_
   rintro a7 _ a0 ⟨ab,rfl,aw⟩
   refine WL.w (R.loadHN (vs:=[(str p.fName),ab]) S rfl a0 lay68 rfl rfl) ?_
   refine W.alloc [(str []),(.slice none 0 0)] S zer68 ?_
   intro a8 a9 S
   refine A ?_
   refine W.store (i:=0) [(str p.fName),ab] S rfl rfl rfl lay68 rfl (AllOne.all (l:=[(str p.fName),ab]) (.cons rfl (.cons (Sl.oneC aw) .nil))) (Nat.le_of_ble_eq_true rfl) rfl ?_
   intro ba S
   refine We<|Ws<|Wg<|M' h3<|M<|B b fun q a1 b=>W.idx (α:=GAxis) j rfl rfl el22 a1 ?_
   rintro bb _ a2 ⟨ac,rfl,ax⟩
   refine WL.w (R.loadHN (vs:=[(str q.fName),ac]) S rfl a2 lay68 rfl rfl) ?_
   refine W.alloc [(str []),(.slice none 0 0)] S zer68 ?_
   intro bc bd S
   refine W.store (i:=0) [(str q.fName),ac] S rfl rfl rfl lay68 rfl (AllOne.all (l:=[(str q.fName),ac]) (.cons rfl (.cons (Sl.oneC ax) .nil))) (Nat.le_of_ble_eq_true rfl) rfl ?_
   intro be S
   refine We<|Ws<|Wg<|M' h4 ?_
   refine WL.w (R.loadBN (i:=1) (vs:=[(str p.fName),ab]) S rfl rfl lay68 rfl rfl) ?_
   refine WL.w (R.loadBN (i:=0) (vs:=[(str q.fName),ac]) S rfl rfl lay68 rfl rfl)<|B b fun bf a3 b=>W.callv S rfl rfl (Fp_eq (S.post.le) S.holds p q aw ax _ a3) ?_
   rintro bg bh a4 a5 S rfl
   have ⟨j,d⟩:=U2 a5 j d
   refine No<|We ?_
   rcases condE b with ⟨ak,b⟩ | ⟨ak,b⟩
   ·refine CT ak<|Ws<|Wg<|A<|We ?_
    obtain rfl:=oi b
    obtain rfl:=ap
    exact WP.ret (Rb h S)
   refine CF ak<|Wk<|Wg<|Lg' h8 rfl<|M<|We ?_
   obtain rfl:=oi b
   exact ⟨rfl,⟨a4,h3,h4,h5,h6,rfl,j,d,(S.pk [])⟩⟩
  refine CF aj<|Wx ?_
  obtain rfl:=oi b
  obtain rfl:=ap
  exact ⟨o,S⟩
 intro f w hM
 rcases ai with _ | e
 ·obtain ⟨H9,S⟩:=hM
  refine Ws<|Wg<|A<|We ?_
  exact WP.ret (Rb h S)
 exact hM.elim
theorem zHX {l:World} {d:Hp} (hw:Holds l d) (f:GAxis) (i:GAxis) {j:Value} {k:Value} (o:Sl d j f.fValues) (p:Sl d k i.fValues) {r:Bool} (h:zDJ f i=some r) :
  Cb Tryz.prog 82 [(agg [(str f.fName),j]),(agg [(str i.fName),k])] l d r:=by
 refine CM 17 Tryz.func82 hw fun S=>?_
 refine Ws<|Wg ?_
 refine W.box [(str f.fName),j] S rfl rfl ?_
 intro q w2 S
 refine W.box [(str i.fName),k] S rfl rfl ?_
 intro t w4 S
 refine A<|We<|Ws<|Wg<|Fb ?_
 refine Lo 1 S<|Fb ?_
 refine Lo 0 S<|Na<|M<|B h fun u c h=>WL.grpw 6 [11,12,13,14,15] 16 (boo u) (fun w=>∃ H':Hp,d.le H'∧St l d w H' [.box t 68 [(str i.fName),k],.box q 68 [(str f.fName),j]]) ?_ ?_
 ·rcases boolE (f.fName==i.fName) with b | b
  ·replace c:=condT c b
   refine Gy b<|Fb<|Gy b ?_
   refine Lo 1 S<|Gy b<|Fb<|Gy b ?_
   refine Lo 0 S<|Gy b<|B c fun r7 v c=>W.call S rfl (zAt S.holds f.fValues i.fValues o p v) ?_
   rintro v8 w9 x z S rfl
   refine Pt b ?_
   exact We ⟨(ob c),ag,⟨x,z,S⟩⟩
  replace c:=condF c b
  refine Gn b<|Gn b<|Gn b<|Gn b<|Gn b<|Pf b ?_
  exact We ⟨(ob c),ag,⟨d,lr,S⟩⟩
 intro us af ⟨ah,ai,S⟩
 refine A<|We ?_
 exact WP.ret (Rb h S)
theorem zH5 {f:World} {b:Hp} (hw:Holds f b) (c:(List GAxis)) (d:(List GAxis)) {i:Value} {j:Value} (k:Sl b i c) (l:Sl b j d) {r:Bool} (h:zEN c d=some r) :
  Cb Tryz.prog 45 [i,j] f b r:=by
 refine CM 8 Tryz.func45 hw fun S=>?_
 refine Ws<|Wg<|A<|We<|Ws<|Wg<|M<|M<|B h fun v o h=>W.call S rfl (zBI S.holds c d zDJ k l (fun hle hw p q=>fun t u r h=>zHX hw p q t u h) o) ?_
 rintro x z H4 ab S rfl
 refine A<|We ?_
 exact WP.ret (Rb h S)
theorem zJU {v:World} {d:Hp} (hw:Holds v d) (b:GEntry) (o:(List GAxis)) (c:GEntry) {f:Value} {j:Value} {k:Value} {l:Value} {x:Value} {p:Value} {q:Value} {t:Value} {u:Value} {z:Addr} {aa:Addr} (ab:Sl d f b.fKeys) (ac:Sl d j b.fVary) (ad:Sl d k b.fSnapshot) (ae:Sl d l b.fFields) (af:At d z [x]) (ah:Sl d x o) (ai:At d aa [p,q,t,(str c.fReason),u,(str c.fBody),(int c.fRequested),(int c.fReceived)]) (aj:Sl d p c.fKeys) (ak:Sl d q c.fVary) (al:Sl d t c.fSnapshot) (am:Sl d u c.fFields) {r:Bool} (h:zFI b o c=some r) :
  Cb Tryz.prog 48 [(agg [f,j,k,(str b.fReason),l,(str b.fBody),(int b.fRequested),(int b.fReceived)]),(.pointer (some z)),(.pointer (some aa))] v d r:=by
 refine CM 9 Tryz.func48 hw fun S=>?_
 refine Ws<|Wg ?_
 refine W.box [f,j,k,(str b.fReason),l,(str b.fBody),(int b.fRequested),(int b.fReceived)] S rfl rfl ?_
 intro b1 w2 S
 refine A<|We<|Ws<|Wg ?_
 refine Lq S af ?_
 refine WL.w (R.loadHN (vs:=[p,q,t,(str c.fReason),u,(str c.fBody),(int c.fRequested),(int c.fReceived)]) S rfl ai lay36 rfl rfl) ?_
 refine WL.w (R.loadBN (i:=0) (vs:=[f,j,k,(str b.fReason),l,(str b.fBody),(int b.fRequested),(int b.fReceived)]) S rfl rfl lay36 rfl rfl)<|B h fun r3 an h=>W.call S rfl (zFn S.holds o c b ah aj ak al am ab ac ad ae an) ?_
 rintro v4 w5 H6 aw S rfl
 refine A<|We ?_
 exact WP.ret (Rb h S)
theorem zCY {l:World} {d:Hp} (hw:Holds l d) (j:(List GEntry)) (q:(GEntry→Option Bool)) {o:Value} {kp_f:FuncId} {cp_f:List Value} (i:Sl d o j) (Fp_f:∀ {w:World} {H:Hp},d.le H→Holds w H→∀ (c:GEntry),∀ {aa ab ac ad:Value},Sl H aa c.fKeys→Sl H ab c.fVary→Sl H ac c.fSnapshot→Sl H ad c.fFields→∀ (rr:Bool),q c=some rr→Con Tryz.prog kp_f ([(agg [aa,ab,ac,(str c.fReason),ad,(str c.fBody),(int c.fRequested),(int c.fReceived)])]++cp_f) w H (fun H' v=>v=(boo rr))) {r:Int} (h:zAk j q=some r) :
  Ci Tryz.prog 84 [o,(.func (.func kp_f) #[] cp_f.toArray)] l d r:=by
 refine CM 19 Tryz.func84 hw fun S=>?_
 refine Ws<|Wg<|A<|We<|Ws<|Ws<|Wg<|M<|Nq i<|M<|We<|B h fun t al h=>WP.cut (fun f w=>match t with | .inl _=>∃ (H7:Hp),St l d w H7 [] | .inr _=>False) ?_ ?_
 ·refine Wb ?_
  refine WP.loopM (zAP j q) (fun s f w=>match s with | af=>∃ (p:Hp),f 0=o∧f 1=(.func (.func kp_f) #[] cp_f.toArray)∧f 7=(int (j.length:Int))∧f 8=(int af)∧Sl p o j∧St l d w p []) 0 t al ?_ ?_
  ·exact ⟨d,rfl,rfl,rfl,rfl,i,S⟩
  intro af f w hI y8 b ah
  obtain ⟨p,h2,h3,h4,u,i,S⟩:=hI
  refine Ws<|Wg<|La' u h4<|We<|Ws ?_
  rcases condE b with ⟨x,b⟩ | ⟨x,b⟩
  ·refine CT x<|Wk<|Ws<|Wb<|Ws<|Wg<|M' u<|A<|We<|Ws<|Wg<|M' h3 ?_
   refine M' h2<|M<|B b fun k am b=>W.idx (α:=GEntry) i rfl rfl el23 am ?_
   rintro a2 _ an ⟨ao,ap,aq,ar,rfl,au,av,aw,ax⟩
   refine WL.w (R.loadHN (vs:=[ao,ap,aq,(str k.fReason),ar,(str k.fBody),(int k.fRequested),(int k.fReceived)]) S rfl an lay36 rfl rfl)<|B b fun a3 ay b=>W.callv S rfl rfl (Fp_f (S.post.le) S.holds k au av aw ax _ ay) ?_
   rintro a4 a5 az a0 S rfl
   have i:=i.up a0
   refine We ?_
   rcases condE b with ⟨z,b⟩ | ⟨z,b⟩
   ·refine CT z<|Ws<|Wg<|M<|A<|We ?_
    obtain rfl:=oi b
    obtain rfl:=ah
    exact WP.ret (Ri h S)
   refine CF z<|Wk<|Wg<|Lg' u rfl<|M<|We ?_
   obtain rfl:=oi b
   exact ⟨rfl,⟨az,h2,h3,h4,rfl,i,S⟩⟩
  refine CF x<|Wx ?_
  obtain rfl:=oi b
  obtain rfl:=ah
  exact ⟨p,S⟩
 intro f w hM
 rcases t with _ | e
 ·obtain ⟨H7,S⟩:=hM
  refine Ws<|Wg<|A<|We ?_
  exact WP.ret (Ri h S)
 exact hM.elim
theorem zCP {w0 ws:World} {H0 Hs:Hp} {L2:List Ent} (b:(List GEntry)) (ad:(GEntry→Option Bool)) {v:Value} {en:Ent} {kd:FuncId} {cd:List Value} (S:St w0 H0 ws Hs (en :: L2)) (RM:MR (α:=GEntry) Hs en 36 v b)
  (F:∀ {w:World} {H:Hp},Hs.le H→Holds w H→∀ (d:GEntry),∀ {al am an ao:Value},Sl H al d.fKeys→Sl H am d.fVary→Sl H an d.fSnapshot→Sl H ao d.fFields→∀ (rr:Bool),ad d=some rr→Con Tryz.prog kd ([(agg [al,am,an,(str d.fReason),ao,(str d.fBody),(int d.fRequested),(int d.fReceived)])]++cd) w H (fun H' v=>v=(boo rr)))
  {r:List GEntry} (h:zAQ b ad=some r) :
  ConS Tryz.prog 47 [v,(.func (.func kd) #[] cd.toArray)] w0 H0 ws Hs L2 (fun H' v' L'=>∃ en',L'=[en']∧MR (α:=GEntry) H' en' 36 v' r):=by
 unfold zAQ at h
 refine ConS.mk (N:=42) Tryz.func47 rfl rfl kr rfl<|Ws<|Wg<|A<|We<|Ws<|Wg<|M<|M<|B h fun i hi h=>?_
 obtain ⟨H1,ar,au,R1⟩:=S.view_ (i:=0) rfl RM
 refine W.callF S rfl (zCY au b ad R1 (fun hle=>F (Hp.le.trans ar hle)) hi) ?_
 rintro _ w1 H2 rfl S
 refine A<|We<|Ws<|Ws<|Wg<|M<|Le<|We ?_
 unfold delR at h
 rcases condE h with ⟨hc,h⟩ | ⟨hc,h⟩
 ·refine CT hc<|Ws<|Wg<|M<|A<|We ?_
  obtain rfl:=oi h
  refine WP.ret (OutS.one (L':=[en]) rfl lr S rfl ?_)
  exact ⟨en,rfl,RM⟩
 refine CF hc<|Wk ?_
 rcases condE h with ⟨hb,h⟩ | ⟨hb,h⟩
 case inr=>cases h
 have hb:=of_decide_eq_true hb
 obtain ⟨c,rfl⟩:=Int.eq_ofNat_of_zero_le hb.1
 have ap:c<b.length:=by omega
 rcases RM with ⟨_,hnil,_⟩ | ⟨g,cap,cur0,cs0,rfl,rfl,hnc,hcm,hcs,htk,hC⟩
 ·subst hnil; exact absurd ap (Nat.not_lt_zero _)
 have D0:DelI Hs b cur0 (b.take c) (c+1):=DelI.start htk hC ap
 have hmax:b.length≤9223372036854775807:=by simp only [maxLen] at hcm; omega
 have ax:(b.take c).length=c:=by rw [List.length_take]; omega
 refine Ws<|Ws<|Wg<|M<|Lg<|A<|We ?_
 refine WP.cut (fun f w=>∃ (m:Nat) (cur:Array Value),f 0=.slice (some ⟨g,0,none⟩) b.length cap∧f 5=int r.length∧b.length≤m∧cur.size=cap*8∧DelI Hs b cur r m∧St w0 H0 w Hs (.obj g (.cells cur 36 (0,0)) :: L2)) ?_ ?_
 ·refine Wb ?_
  refine WP.loopM (delL b ad) (fun s f w=>∃ (m:Nat) (cur:Array Value),s.2=m∧f 0=.slice (some ⟨g,0,none⟩) b.length cap∧f 1=.func (.func kd) #[] cd.toArray∧f 5=int s.1.length∧f 6=int m∧cur.size=cap*8∧DelI Hs b cur s.1 m∧St w0 H0 w Hs (.obj g (.cells cur 36 (0,0)) :: L2)) _ _ h ?_ ?_
  ·refine ⟨c+1,cur0,rfl,rfl,rfl,?_,?_,hcs,D0,S⟩
   ·show int c=int ((b.take (Int.toNat c)).length:Nat)
    rw [Int.toNat_natCast,ax]
   show int (wr ((c:Int)+1))=int ((c+1:Nat):Int)
   rw [wr_eq ⟨by omega,by omega⟩]; rfl
  rintro ⟨K,mi⟩ f w ⟨m,cur,rfl,j,h1,k,h6,hsz,D,S⟩ y hy hyr
  unfold delL at hy
  refine Ws<|Ws<|Wg<|M' h6<|M' j<|Nv<|La<|We ?_
  rcases condE hy with ⟨hcm,hy⟩ | ⟨hcm,hy⟩
  ·refine CT hcm<|Wk ?_
   have hmn:m<b.length:=by have:=of_decide_eq_true hcm; omega
   refine B hy fun x hx hy=>?_
   obtain rfl:b[m]=x:=by
    unfold xnth at hx
    rw [if_pos (by omega)] at hx
    have:=(List.getElem?_eq_some_iff.1 hx).2
    exact this
   obtain ⟨_,aq,_,p,q,t,u,rfl,q1,q2,q3,q4⟩:=D.look hmn
   refine Ws<|Wb<|Ws<|Wg<|M' j<|M' h6 ?_
   refine WL.w (R.idxN (m:=(m:Int)) rfl rfl el23 ⟨by omega,by omega⟩) ?_
   refine WL.w (R.loadO (i:=0) (o:=m*8) (vs:=[p,q,t,(str b[m].fReason),u,(str b[m].fBody),(int b[m].fRequested),(int b[m].fReceived)]) S rfl rfl lay36 rfl aq) ?_
   refine W.alloc _ S zer36 ?_
   intro b7 w8 S
   refine W.store (i:=0) [p,q,t,(str b[m].fReason),u,(str b[m].fBody),(int b[m].fRequested),(int b[m].fReceived)] S rfl rfl rfl lay36 rfl (AllOne.all (l:=[p,q,t,(str b[m].fReason),u,(str b[m].fBody),(int b[m].fRequested),(int b[m].fReceived)]) (.cons (Sl.oneC q1) (.cons (Sl.oneC q2) (.cons (Sl.oneC q3) (.cons rfl (.cons (Sl.oneC q4) (.cons rfl (.cons rfl (.cons rfl .nil))))))))) (Nat.le_of_ble_eq_true rfl) rfl ?_
   intro w9 S
   refine We<|Ws<|Wg<|M' h1 ?_
   refine WL.w (R.loadBN (i:=0) (vs:=[p,q,t,(str b[m].fReason),u,(str b[m].fBody),(int b[m].fRequested),(int b[m].fReceived)]) S rfl rfl lay36 rfl rfl)<|B hy fun bb hbb hy=>?_
   refine W.callvF S rfl rfl (F lr S.holds b[m] q1 q2 q3 q4 bb hbb) ?_
   rintro _ a7 a8 rfl S
   refine No<|We ?_
   cases bb with
   | true =>
    refine CF rfl<|Wk<|Wg<|M' h6<|Lg<|A<|We ?_
    obtain rfl:=oi hy
    refine ⟨rfl,m+1,cur,rfl,j,h1,k,?_,hsz,D.skip hmn,S.drop _ (.cons _ (.refl _))⟩
    show int (wr ((m:Int)+1))=int ((m+1:Nat):Int)
    rw [wr_eq ⟨by omega,by omega⟩]; rfl
   | false =>
    refine CT rfl<|Ws<|Wg<|M' j<|M' k ?_
    refine WL.w (R.loadBN (i:=0) (vs:=[p,q,t,(str b[m].fReason),u,(str b[m].fBody),(int b[m].fRequested),(int b[m].fReceived)]) S rfl rfl lay36 rfl rfl) ?_
    have hKm:K.length<m:=D.1
    refine WL.w (R.idxN (m:=(K.length:Int)) rfl rfl el23 ⟨by omega,by omega⟩) ?_
    refine W.storeO (i:=1) (o:=K.length*8) S rfl rfl rfl lay36 rfl (AllOne.all (l:=[p,q,t,(str b[m].fReason),u,(str b[m].fBody),(int b[m].fRequested),(int b[m].fReceived)]) (.cons (Sl.oneC q1) (.cons (Sl.oneC q2) (.cons (Sl.oneC q3) (.cons rfl (.cons (Sl.oneC q4) (.cons rfl (.cons rfl (.cons rfl .nil))))))))) (by omega) ?_
    intro a9 cur' hcur S
    have hcur:cur'.toList=cur.toList.take (K.length*8)++[p,q,t,(str b[m].fReason),u,(str b[m].fBody),(int b[m].fRequested),(int b[m].fReceived)]++cur.toList.drop (K.length*8+8):=hcur
    have D2:=D.keep hmn aq hcur
    refine We<|Wg<|M' k<|Lg<|A<|We<|Wg<|M' h6<|Lg<|A<|We ?_
    obtain rfl:=oi hy
    refine ⟨rfl,m+1,cur',rfl,j,h1,?_,?_,?_,D2,S.drop _ (.cons _ (.refl _))⟩
    ·show int (wr ((K.length:Int)+1))=int (((K++[b[m]]).length:Nat):Int)
     rw [wr_eq ⟨by omega,by omega⟩,List.length_append]; rfl
    ·show int (wr ((m:Int)+1))=int ((m+1:Nat):Int)
     rw [wr_eq ⟨by omega,by omega⟩]; rfl
    rw [← Array.length_toList,hcur]
    simp only [List.length_append,List.length_take,List.length_drop,List.length_cons,List.length_nil]
    have hcl:cur.toList.length=cap*8:=hsz
    rw [hcl]
    omega
  refine CF hcm<|Wx ?_
  obtain rfl:=oi hy
  obtain rfl:=hyr
  have hcm:=of_decide_eq_false hcm
  exact ⟨m,cur,j,k,by omega,hsz,D,S⟩
 rintro f w ⟨m,cur,j,k,hm,hsz,D,S⟩
 have hKm:=D.1
 have hmp:=D.2.1
 obtain ⟨kc,hkc,hkC⟩:=D.front
 refine Ws<|Wg<|M' j<|M' k ?_
 refine WL.w (R.sliceLo rfl rfl el23 (by omega) (by omega))<|W.clearO (α:=GEntry) (i:=0) S el23 (fun z hz=>by rw [zer36] at hz; obtain rfl:=oi hz; rfl) rfl rfl (by show r.length*8+(b.length - r.length)*8≤cur.size; omega) ?_
 intro ba cur2 az a0 S
 refine We<|Ws<|Wg<|M' j<|M' k ?_
 refine WL.w (R.sliceHi rfl rfl el23 (by omega))<|A<|We ?_
 refine WP.ret (OutS.one (L':=[.obj g (.cells cur2 36 (0,0))]) rfl lr S rfl ?_)
 exact ⟨_,rfl,.inr ⟨g,cap,cur2,kc,rfl,rfl,by omega,hcm,by rw [az]; exact hsz,a0.trans hkc,hkC⟩⟩
theorem zII {w0:World} {H0:Hp} (hw:Holds w0 H0) (bh:GTable) (b:GEntry) (a1:(List GAxis)) (bt:Int) {bi:Value} {bj:Value} {au:Value} {av:Value} {aw:Value} {ax:Value} {a2:Value} (bq:Sl H0 bi bh.fAxes) (ct:Sl H0 bj bh.fEntries) (k:Sl H0 au b.fKeys) (o:Sl H0 av b.fVary) (p:Sl H0 aw b.fSnapshot) (q:Sl H0 ax b.fFields) (af:Sl H0 a2 a1) {r:GTable} (h:zE3 bh b a1 bt=some r) :
  Con Tryz.prog 17 [(agg [bi,bj]),(agg [au,av,aw,(str b.fReason),ax,(str b.fBody),(int b.fRequested),(int b.fReceived)]),a2,(int bt)] w0 H0 (fun H' v=>∃ u1 u2:Value,v=(agg [u1,u2])∧Sl H' u1 r.fAxes∧Sl H' u2 r.fEntries):=by
 refine CM 44 Tryz.func17 hw fun S=>?_
 refine Ws<|Wg ?_
 refine W.box [bi,bj] S rfl rfl ?_
 intro b1 w2 S
 refine W.box [au,av,aw,(str b.fReason),ax,(str b.fBody),(int b.fRequested),(int b.fReceived)] S rfl rfl ?_
 intro b3 w4 S
 refine W.box [a2] S rfl (congrArg Array.toList (Sl.cellsOne af)) ?_
 intro b5 w6 S
 refine W.alloc [(.slice none 0 0),(.slice none 0 0)] S zer25 ?_
 intro b7 w8 S
 refine We<|Ws<|Wg ?_
 refine WL.w (R.loadBN (i:=3) (vs:=[bi,bj]) S rfl rfl lay25 rfl rfl)<|B h fun r9 cv h=>W.callS rfl (zGd bh S bq ct cv) ?_
 rintro dk dl cw dm cx S ⟨bu,bv,ci,rfl,rfl,ba,bb⟩
 replace S:St w0 H0 _ cw [ci,.box b7 25 [(.slice none 0 0),(.slice none 0 0)],.box b5 22 [a2],.box b3 36 [au,av,aw,(str b.fReason),ax,(str b.fBody),(int b.fRequested),(int b.fReceived)],.box b1 25 [bi,bj]]:=S
 have ⟨bq,k,o,p,q,af⟩:=U6 cx bq k o p q af
 refine W.alloc [(.slice none 0 0),(.slice none 0 0)] S zer25 ?_
 intro ay dn S
 refine W.store (i:=0) [bu,bv] S rfl rfl rfl lay25 rfl (AllOne.all (l:=[bu,bv]) (.cons (Sl.oneC ba) (.cons (MR.oneC bb) .nil))) (Nat.le_of_ble_eq_true rfl) rfl ?_
 intro dp S
 refine We<|Ws<|Ws<|Wg<|Fb ?_
 refine Lo 5 S ?_
 refine Lo 3 S<|B h fun dq cy h=>W.call S rfl (zH5 S.holds bh.fAxes a1 bq af cy) ?_
 rintro dr ds cz cj S rfl
 have ⟨k,o,p,q,af,ba⟩:=U6 cj k o p q af ba
 have bb:=MR.mono bb cj
 refine No<|We ?_
 obtain ⟨⟨c0,ck⟩,a3,h⟩:=bindE h
 refine WP.cut (fun f w=>∃ (az:Hp) (c:Value) (a4:Value) (bc:Ent),f 3=(int bt)∧f 5=(ptr b3 0)∧f 6=(ptr b5 0)∧f 8=(ptr b7 0)∧f 9=(ptr ay 0)∧Sl az c c0∧MR (α:=GEntry) az bc 36 a4 ck∧Sl az a2 a1∧Sl az au b.fKeys∧Sl az av b.fVary∧Sl az aw b.fSnapshot∧Sl az ax b.fFields∧St w0 H0 w az [.box ay 25 [c,a4],bc,.box b7 25 [(.slice none 0 0),(.slice none 0 0)],.box b5 22 [a2],.box b3 36 [au,av,aw,(str b.fReason),ax,(str b.fBody),(int b.fRequested),(int b.fReceived)]]) ?_ ?_
 ·rcases condE a3 with ⟨bw,a3⟩ | ⟨bw,a3⟩
  ·refine CT bw<|Wg ?_
   refine Lo 3 S<|B a3 fun dt c1 a3=>W.call S rfl (zH4 S.holds a1 af c1) ?_
   rintro bn du c2 cl S bx
   have ⟨k,o,p,q,af,ba⟩:=U6 cl k o p q af ba
   have bb:=MR.mono bb cl
   refine WL.w (R.build [(0,bn)] [bn,(.slice none 0 0)] bp25 zer25 rfl (by obtain ⟨_,_,rfl,_⟩:=bx; rfl)) ?_
   refine W.store (i:=0) [bn,(.slice none 0 0)] S rfl rfl rfl lay25 rfl (AllOne.all (l:=[bn,(.slice none 0 0)]) (.cons (Sl.oneC bx) (.cons rfl .nil))) (Nat.le_of_ble_eq_true rfl) rfl ?_
   intro dw S
   refine We ?_
   cases oi a3
   exact ⟨c2,bn,.slice none 0 0,(.row (.slice none 0 0) 36 8 0),rfl,rfl,rfl,rfl,rfl,bx,MR.nil,af,k,o,p,q,((S.addNil 36 8).pk [1,0,3,4,5])⟩
  refine CF bw<|Wk ?_
  cases oi a3
  exact ⟨cz,bu,bv,(ci),rfl,rfl,rfl,rfl,rfl,ba,bb,af,k,o,p,q,(S.pk [0,1,2,3,4])⟩
 rintro f w ⟨az,c,a4,bc,br,bz,c3,a0,x,d,bo,af,k,o,p,q,S⟩
 refine Ws<|Wg<|Fb' x ?_
 refine Lo 0 S ?_
 obtain ⟨cm,cn,c4,_,S⟩:=S.settle (i:=3) rfl
 replace S:St w0 H0 _ cm [.box ay 25 [c,a4],bc,.box b7 25 [(.slice none 0 0),(.slice none 0 0)],.box b3 36 [au,av,aw,(str b.fReason),ax,(str b.fBody),(int b.fRequested),(int b.fReceived)]]:=S
 have b0:At cm ⟨b5,0,none⟩ [a2]:=⟨_,_,rfl,c4,[],by simp⟩
 have bo:=MR.mono bo cn
 have ⟨d,af,k,o,p,q⟩:=U6 cn d af k o p q
 obtain ⟨b2,bs,c5,_,S⟩:=S.settle (i:=3) rfl
 replace S:St w0 H0 _ b2 [.box ay 25 [c,a4],bc,.box b7 25 [(.slice none 0 0),(.slice none 0 0)]]:=S
 have an:At b2 ⟨b3,0,none⟩ [au,av,aw,(str b.fReason),ax,(str b.fBody),(int b.fRequested),(int b.fReceived)]:=⟨_,_,rfl,c5,[],by simp⟩
 have b0:=At.mono b0 bs (by simp)
 have af:=af.up bs
 have bo:=MR.mono bo bs
 have ⟨d,k,o,p,q⟩:=U5 bs d k o p q
 refine WL.w (R.mkFunc (vs:=[(.pointer (some ⟨b5,0,none⟩)),(.pointer (some ⟨b3,0,none⟩))]) (mapC c3 (mapC bz mapN)))<|B h fun dx c6 h=>?_
 have S:=S.front 1 rfl
 replace S:St w0 H0 _ b2 (bc :: [.box ay 25 [c,a4],.box b7 25 [(.slice none 0 0),(.slice none 0 0)]]):=S
 refine W.callS rfl (zCP ck (fun x0=>zFI x0 a1 b) S bo (fun hle hw x0=>fun c7 c8 c9 da r h=>zJU hw x0 a1 b c7 c8 c9 da (At.mono b0 hle (by simp)) (af.up hle) (At.mono an hle (by simp)) (k.up hle) (o.up hle) (p.up hle) (q.up hle) h) c6) ?_
 rintro db dy dc dz co S ⟨dd,rfl,t⟩
 replace S:St w0 H0 _ dc [dd,.box ay 25 [c,a4],.box b7 25 [(.slice none 0 0),(.slice none 0 0)]]:=S
 have an:=At.mono an co (by simp)
 have ⟨k,o,p,q,d⟩:=U5 co k o p q d
 refine Fb' x ?_
 refine W.storeMR (α:=GEntry) (i:=1) [c,db] S t rfl rfl rfl lay23 (Nat.le_of_ble_eq_true rfl) rfl ?_
 intro d0 S
 refine We<|Ws<|WP.draw kr 8 rfl (bm 8 0) rfl ?_
 have S:=S.drew
 refine At_ 0 8 1 rfl (fun _=>(R.fieldB x zBV)) ?_
 refine WA.two (i:=1) (j:=2) (bm 8 3) (bm 8 5) rfl rfl kr rfl rfl ?_ ?_
 ·refine Lo 1 S<|We<|WA.one (i:=2) (bm 8 7) rfl kr rfl ?_
  refine WL.w (R.loadHN (vs:=[au,av,aw,(str b.fReason),ax,(str b.fBody),(int b.fRequested),(int b.fReceived)]) S bz an lay36 rfl rfl)<|We<|WA.one (i:=3) (bm 8 15) rfl kr rfl<|B h fun u bp h=>W.call S rfl (zCL S.holds b k o p q bp) ?_
  rintro cp cq cr ao S ⟨bd,be,bf,bg,rfl,ab,ac,ad,ae⟩
  have an:=At.mono an ao (by simp)
  have ⟨k,o,p,q⟩:=U4 ao k o p q
  have t:=MR.mono t ao
  have d:=d.up ao
  refine We<|WA.one (i:=4) (bm 8 31) rfl kr rfl<|W.bslice (α:=GEntry) [(agg [bd,be,bf,(str u.fReason),bg,(str u.fBody),(int u.fRequested),(int u.fReceived)])] ([u]:List GEntry) S el23 rfl rfl rfl (by decide) (Go.Eng.encS ⟨rfl,_,_,_,_,rfl,ab,ac,ad,ae⟩ enc0) ?_
  intro a5 b6 b8 ai ak S
  have an:=At.mono an ai (by simp)
  have ⟨k,o,p,q⟩:=U4 ai k o p q
  have t:=MR.mono t ai
  have ⟨ab,ac,ad,ae,d⟩:=U5 ai ab ac ad ae d
  refine We<|WA.one (i:=5) (bm 8 63) rfl kr rfl<|B h fun b9 a6 h=>W.appM (α:=GEntry) (i:=1) S el23 rfl rfl rfl t ak a6 ?_
  intro ap ca cb aq S
  refine We ?_
  refine At_ 6 8 127 rfl (fun _=>(R.fieldB x zBV))<|WA.one (i:=7) (bm 8 255) rfl kr rfl ?_
  refine W.storeMR (α:=GEntry) (i:=2) [c,ap] S aq rfl rfl rfl lay23 (Nat.le_of_ble_eq_true rfl) rfl ?_
  intro cc S
  refine We<|WA.done kr<|Ws<|Wg<|Fb' x ?_
  refine Lo 2 S<|Fb' x ?_
  refine Lo 2 S ?_
  obtain ⟨a7,aj,ar,S⟩:=S.settleM (i:=1) rfl aq
  replace S:St w0 H0 _ a7 [.row a5 36 8 ([u]:List GEntry).length,.box ay 25 [c,ap],.box b7 25 [(.slice none 0 0),(.slice none 0 0)]]:=S
  have an:=At.mono an aj (by simp)
  have ⟨k,o,p,q⟩:=U4 aj k o p q
  have t:=MR.mono t aj
  have ⟨ab,ac,ad,ae,ak,d⟩:=U6 aj ab ac ad ae ak d
  refine Nq ar<|M' br<|Nj<|Lh<|Nj<|B h fun cd a8 h=>W.subLo (α:=GEntry) ar rfl rfl el23 a8 ?_
  intro z ah
  refine Fb' x ?_
  refine W.storeSl (α:=GEntry) (i:=1) [c,z] S ah rfl rfl rfl lay23 (Nat.le_of_ble_eq_true rfl) rfl ?_
  intro ce S
  refine We<|Ws<|Wg ?_
  refine WL.w (R.loadBN (i:=1) (vs:=[c,z]) S x rfl lay25 rfl rfl) ?_
  refine W.store (i:=2) [c,z] S a0 rfl rfl lay25 rfl (AllOne.all (l:=[c,z]) (.cons (Sl.oneC d) (.cons (Sl.oneC ah) .nil))) (Nat.le_of_ble_eq_true rfl) rfl ?_
  intro cf S
  refine We ?_
  obtain rfl:=oi h
  refine WP.ret (Out.one rfl S (Res.cellB (i:=2) (cs:=[c,z]) S a0 rfl lay25 rfl rfl) ?_)
  exact ⟨_,_,rfl,d,ah⟩
 refine WL.w (R.loadHN (vs:=[au,av,aw,(str b.fReason),ax,(str b.fBody),(int b.fRequested),(int b.fReceived)]) S bz an lay36 rfl rfl)<|We ?_
 refine WA.two (i:=1) (j:=3) (bm 8 7) (bm 8 13) rfl rfl kr rfl rfl ?_ ?_
 ·refine Lo 1 S<|We<|WA.one (i:=3) (bm 8 15) rfl kr rfl<|B h fun u bp h=>W.call S rfl (zCL S.holds b k o p q bp) ?_
  rintro cp cq cr ao S ⟨bd,be,bf,bg,rfl,ab,ac,ad,ae⟩
  have ⟨k,o,p,q⟩:=U4 ao k o p q
  have t:=MR.mono t ao
  have d:=d.up ao
  refine We<|WA.one (i:=4) (bm 8 31) rfl kr rfl<|W.bslice (α:=GEntry) [(agg [bd,be,bf,(str u.fReason),bg,(str u.fBody),(int u.fRequested),(int u.fReceived)])] ([u]:List GEntry) S el23 rfl rfl rfl (by decide) (Go.Eng.encS ⟨rfl,_,_,_,_,rfl,ab,ac,ad,ae⟩ enc0) ?_
  intro a5 b6 b8 ai ak S
  have ⟨k,o,p,q⟩:=U4 ai k o p q
  have t:=MR.mono t ai
  have ⟨ab,ac,ad,ae,d⟩:=U5 ai ab ac ad ae d
  refine We<|WA.one (i:=5) (bm 8 63) rfl kr rfl<|B h fun b9 a6 h=>W.appM (α:=GEntry) (i:=1) S el23 rfl rfl rfl t ak a6 ?_
  intro ap ca cb aq S
  refine We ?_
  refine At_ 6 8 127 rfl (fun _=>(R.fieldB x zBV))<|WA.one (i:=7) (bm 8 255) rfl kr rfl ?_
  refine W.storeMR (α:=GEntry) (i:=2) [c,ap] S aq rfl rfl rfl lay23 (Nat.le_of_ble_eq_true rfl) rfl ?_
  intro cc S
  refine We<|WA.done kr<|Ws<|Wg<|Fb' x ?_
  refine Lo 2 S<|Fb' x ?_
  refine Lo 2 S ?_
  obtain ⟨a7,aj,ar,S⟩:=S.settleM (i:=1) rfl aq
  replace S:St w0 H0 _ a7 [.row a5 36 8 ([u]:List GEntry).length,.box ay 25 [c,ap],.box b7 25 [(.slice none 0 0),(.slice none 0 0)]]:=S
  have ⟨k,o,p,q⟩:=U4 aj k o p q
  have t:=MR.mono t aj
  have ⟨ab,ac,ad,ae,ak,d⟩:=U6 aj ab ac ad ae ak d
  refine Nq ar<|M' br<|Nj<|Lh<|Nj<|B h fun cd a8 h=>W.subLo (α:=GEntry) ar rfl rfl el23 a8 ?_
  intro z ah
  refine Fb' x ?_
  refine W.storeSl (α:=GEntry) (i:=1) [c,z] S ah rfl rfl rfl lay23 (Nat.le_of_ble_eq_true rfl) rfl ?_
  intro ce S
  refine We<|Ws<|Wg ?_
  refine WL.w (R.loadBN (i:=1) (vs:=[c,z]) S x rfl lay25 rfl rfl) ?_
  refine W.store (i:=2) [c,z] S a0 rfl rfl lay25 rfl (AllOne.all (l:=[c,z]) (.cons (Sl.oneC d) (.cons (Sl.oneC ah) .nil))) (Nat.le_of_ble_eq_true rfl) rfl ?_
  intro cf S
  refine We ?_
  obtain rfl:=oi h
  refine WP.ret (Out.one rfl S (Res.cellB (i:=2) (cs:=[c,z]) S a0 rfl lay25 rfl rfl) ?_)
  exact ⟨_,_,rfl,d,ah⟩
 refine B h fun u bp h=>W.call S rfl (zCL S.holds b k o p q bp) ?_
 rintro cp cq cr ao S ⟨bd,be,bf,bg,rfl,ab,ac,ad,ae⟩
 have t:=MR.mono t ao
 have d:=d.up ao
 refine We ?_
 refine WA.two (i:=1) (j:=4) (bm 8 15) (bm 8 29) rfl rfl kr rfl rfl ?_ ?_
 ·refine Lo 1 S<|We<|WA.one (i:=4) (bm 8 31) rfl kr rfl<|W.bslice (α:=GEntry) [(agg [bd,be,bf,(str u.fReason),bg,(str u.fBody),(int u.fRequested),(int u.fReceived)])] ([u]:List GEntry) S el23 rfl rfl rfl (by decide) (Go.Eng.encS ⟨rfl,_,_,_,_,rfl,ab,ac,ad,ae⟩ enc0) ?_
  intro a5 b6 b8 ai ak S
  have t:=MR.mono t ai
  have ⟨ab,ac,ad,ae,d⟩:=U5 ai ab ac ad ae d
  refine We<|WA.one (i:=5) (bm 8 63) rfl kr rfl<|B h fun b9 a6 h=>W.appM (α:=GEntry) (i:=1) S el23 rfl rfl rfl t ak a6 ?_
  intro ap ca cb aq S
  refine We ?_
  refine At_ 6 8 127 rfl (fun _=>(R.fieldB x zBV))<|WA.one (i:=7) (bm 8 255) rfl kr rfl ?_
  refine W.storeMR (α:=GEntry) (i:=2) [c,ap] S aq rfl rfl rfl lay23 (Nat.le_of_ble_eq_true rfl) rfl ?_
  intro cc S
  refine We<|WA.done kr<|Ws<|Wg<|Fb' x ?_
  refine Lo 2 S<|Fb' x ?_
  refine Lo 2 S ?_
  obtain ⟨a7,aj,ar,S⟩:=S.settleM (i:=1) rfl aq
  replace S:St w0 H0 _ a7 [.row a5 36 8 ([u]:List GEntry).length,.box ay 25 [c,ap],.box b7 25 [(.slice none 0 0),(.slice none 0 0)]]:=S
  have t:=MR.mono t aj
  have ⟨ab,ac,ad,ae,ak,d⟩:=U6 aj ab ac ad ae ak d
  refine Nq ar<|M' br<|Nj<|Lh<|Nj<|B h fun cd a8 h=>W.subLo (α:=GEntry) ar rfl rfl el23 a8 ?_
  intro z ah
  refine Fb' x ?_
  refine W.storeSl (α:=GEntry) (i:=1) [c,z] S ah rfl rfl rfl lay23 (Nat.le_of_ble_eq_true rfl) rfl ?_
  intro ce S
  refine We<|Ws<|Wg ?_
  refine WL.w (R.loadBN (i:=1) (vs:=[c,z]) S x rfl lay25 rfl rfl) ?_
  refine W.store (i:=2) [c,z] S a0 rfl rfl lay25 rfl (AllOne.all (l:=[c,z]) (.cons (Sl.oneC d) (.cons (Sl.oneC ah) .nil))) (Nat.le_of_ble_eq_true rfl) rfl ?_
  intro cf S
  refine We ?_
  obtain rfl:=oi h
  refine WP.ret (Out.one rfl S (Res.cellB (i:=2) (cs:=[c,z]) S a0 rfl lay25 rfl rfl) ?_)
  exact ⟨_,_,rfl,d,ah⟩
 refine W.bslice (α:=GEntry) [(agg [bd,be,bf,(str u.fReason),bg,(str u.fBody),(int u.fRequested),(int u.fReceived)])] ([u]:List GEntry) S el23 rfl rfl rfl (by decide) (Go.Eng.encS ⟨rfl,_,_,_,_,rfl,ab,ac,ad,ae⟩ enc0) ?_
 intro a5 b6 b8 ai ak S
 have t:=MR.mono t ai
 have d:=d.up ai
 refine We<|WA.one (i:=1) (bm 8 31) rfl kr rfl ?_
 refine Lo 2 S<|We<|WA.one (i:=5) (bm 8 63) rfl kr rfl<|B h fun b9 a6 h=>W.appM (α:=GEntry) (i:=1) S el23 rfl rfl rfl t ak a6 ?_
 intro ap ca cb aq S
 refine We ?_
 refine At_ 6 8 127 rfl (fun _=>(R.fieldB x zBV))<|WA.one (i:=7) (bm 8 255) rfl kr rfl ?_
 refine W.storeMR (α:=GEntry) (i:=2) [c,ap] S aq rfl rfl rfl lay23 (Nat.le_of_ble_eq_true rfl) rfl ?_
 intro cc S
 refine We<|WA.done kr<|Ws<|Wg<|Fb' x ?_
 refine Lo 2 S<|Fb' x ?_
 refine Lo 2 S ?_
 obtain ⟨a7,aj,ar,S⟩:=S.settleM (i:=1) rfl aq
 replace S:St w0 H0 _ a7 [.row a5 36 8 ([u]:List GEntry).length,.box ay 25 [c,ap],.box b7 25 [(.slice none 0 0),(.slice none 0 0)]]:=S
 have t:=MR.mono t aj
 have d:=d.up aj
 refine Nq ar<|M' br<|Nj<|Lh<|Nj<|B h fun cd a8 h=>W.subLo (α:=GEntry) ar rfl rfl el23 a8 ?_
 intro z ah
 refine Fb' x ?_
 refine W.storeSl (α:=GEntry) (i:=1) [c,z] S ah rfl rfl rfl lay23 (Nat.le_of_ble_eq_true rfl) rfl ?_
 intro ce S
 refine We<|Ws<|Wg ?_
 refine WL.w (R.loadBN (i:=1) (vs:=[c,z]) S x rfl lay25 rfl rfl) ?_
 refine W.store (i:=2) [c,z] S a0 rfl rfl lay25 rfl (AllOne.all (l:=[c,z]) (.cons (Sl.oneC d) (.cons (Sl.oneC ah) .nil))) (Nat.le_of_ble_eq_true rfl) rfl ?_
 intro cf S
 refine We ?_
 obtain rfl:=oi h
 refine WP.ret (Out.one rfl S (Res.cellB (i:=2) (cs:=[c,z]) S a0 rfl lay25 rfl rfl) ?_)
 exact ⟨_,_,rfl,d,ah⟩
theorem zG7 {j:World} {i:Hp} (hw:Holds j i) (c:GField) (f:Str) {k:Addr} (l:At i k [(str f)]) {r:Bool} (h:zCl c f=some r) :
  Cb Tryz.prog 158 [(agg [(str c.fName),(str c.fValue)]),(.pointer (some k))] j i r:=by
 refine CM 17 Tryz.func158 hw fun S=>?_
 refine Ws<|Wg ?_
 refine W.box [(str c.fName),(str c.fValue)] S rfl rfl ?_
 intro t u S
 refine A<|We<|Ws<|WP.quiet S kr kr<|QFb ?_
 refine QB 0 (str c.fName)<|QNs ?_
 refine QH (str f) l<|QNs<|QLe<|QM<|B h fun o d h=>WQ.grp 6 [11,12,13,14,15] 16 (boo o) ?_ ?_
 ·rcases boolE ((c.fName.length:Int)==(f.length:Int)) with b | b
  ·replace d:=condT d b
   refine QGy b<|QFb<|QGy b ?_
   refine QB 0 (str c.fName)<|QGy b<|B d fun p q d=>WQ.call (v:=str p) rfl (fun w H' hq S=>zAe S.holds c.fName q)<|QGy b ?_
   refine QH (str f) l<|QGy b<|QNa<|QPt b ?_
   exact WQ.nil ⟨(ob d),ag⟩
  replace d:=condF d b
  refine QGn b<|QGn b<|QGn b<|QGn b<|QGn b<|QPf b ?_
  exact WQ.nil ⟨(ob d),ag⟩
 intro us
 refine QA<|WQ.nil ?_
 intro x z aa S
 exact WP.ret (Rb h S)
theorem zFJ {f:World} {j:Hp} (hw:Holds f j) (d:Str) {r:(GField→Option Bool)} (h:zCd d=some r) :
  Con Tryz.prog 129 [(str d)] f j (fun H' v=>∃ (k:FuncId) (c:List Value),v=.func (.func k) #[] c.toArray∧∀ {w:World} {H:Hp},H'.le H→Holds w H→∀ (b:GField) (rr:Bool),r b=some rr→Con Tryz.prog k ([(agg [(str b.fName),(str b.fValue)])]++c) w H (fun H' v=>v=(boo rr))):=by
 refine CM 6 Tryz.func129 hw fun S=>?_
 refine Ws<|Wg ?_
 refine W.box [(str d)] S rfl rfl ?_
 intro l x S
 refine A<|We<|Ws<|Wg ?_
 refine Lo 0 S<|B h fun o q h=>W.call S rfl (zAe S.holds d q) ?_
 rintro z w5 H6 ac S rfl
 refine W.store (i:=0) [(str o)] S rfl rfl rfl lay9 rfl rfl (Nat.le_of_ble_eq_true rfl) rfl ?_
 intro w8 S
 refine We<|Ws<|Wg ?_
 obtain ⟨p,ae,t,_,S⟩:=S.settle (i:=0) rfl
 replace S:St f j _ p []:=S
 have u:At p ⟨l,0,none⟩ [(str o)]:=⟨_,_,rfl,t,[],by simp⟩
 refine WL.w (R.mkFunc (vs:=[(.pointer (some ⟨l,0,none⟩))]) rfl)<|A<|We ?_
 obtain rfl:=oi h
 refine WP.ret (Out.one rfl S rfl ?_)
 exact ⟨_,[(.pointer (some ⟨l,0,none⟩))],rfl,fun hle hw b r h=>zG7 hw b o (At.mono u hle (by simp)) h⟩
theorem zFF {q:World} {k:Hp} (hw:Holds q k) (o:(List GField)) (z:(GField→Option Bool)) {t:Value} {kp_keep:FuncId} {cp_keep:List Value} (c:Sl k t o) (Fp_keep:∀ {w:World} {H:Hp},k.le H→Holds w H→∀ (x0:GField) (rr:Bool),z x0=some rr→Con Tryz.prog kp_keep ([(agg [(str x0.fName),(str x0.fValue)])]++cp_keep) w H (fun H' v=>v=(boo rr))) {r:(List GField)} (h:zCD o z=some r) :
  Con Tryz.prog 128 [t,(.func (.func kp_keep) #[] cp_keep.toArray)] q k (fun H' v=>Sl H' v r):=by
 refine CM 23 Tryz.func128 hw fun S=>?_
 refine Ws<|Wg<|A<|We<|Ws<|Wg<|A<|We<|Ws<|Ws<|Wg<|M ?_
 refine Nq c<|M<|We ?_
 have S:=S.addNil 64 2
 refine B h fun ab am h=>WP.cut (fun f w=>∃ (ac:Hp) (u:Value),f 5=u∧Sl ac u ab∧St q k w ac [.row u 64 2 ab.length]) ?_ ?_
 ·refine Wb ?_
  refine WP.loopM (zBS o z) (fun s f w=>match s with | (ad,al)=>∃ (p:Hp) (l:Value),f 1=(.func (.func kp_keep) #[] cp_keep.toArray)∧f 5=l∧f 8=t∧f 9=(int (o.length:Int))∧f 10=(int al)∧Sl p l ad∧Sl p t o∧St q k w p [.row l 64 2 ad.length]) (([]:List GField),0) ab am ?_ ?_
  ·exact ⟨k,.slice none 0 0,rfl,rfl,rfl,rfl,rfl,Sl.nil,c,S⟩
  intro s f w hI a4 b an
  obtain ⟨ad,al⟩:=s
  obtain ⟨p,l,h2,h6,h7,h8,x,j,c,S⟩:=hI
  refine Ws<|Wg<|La' x h8<|We<|Ws ?_
  rcases condE b with ⟨aj,b⟩ | ⟨aj,b⟩
  ·refine CT aj<|Wk<|Ws<|Wb<|Ws<|Wg<|B b fun d ao b=>W.idx (α:=GField) c h7 x el26 ao ?_
   rintro a5 _ ap rfl
   refine WL.w (R.loadHN (vs:=[(str d.fName),(str d.fValue)]) S rfl ap lay64 rfl rfl) ?_
   refine W.alloc [(str []),(str [])] S zer64 ?_
   intro a6 a7 S
   refine W.store (i:=0) [(str d.fName),(str d.fValue)] S rfl rfl rfl lay64 rfl rfl (Nat.le_of_ble_eq_true rfl) rfl ?_
   intro a8 S
   refine We<|Ws<|Wg<|M' h2 ?_
   refine WL.w (R.loadBN (i:=0) (vs:=[(str d.fName),(str d.fValue)]) S rfl rfl lay64 rfl rfl)<|B b fun a9 aq b=>W.callv S rfl rfl (Fp_keep (S.post.le) S.holds d _ aq) ?_
   rintro ba bb ar au S rfl
   have ⟨j,c⟩:=U2 au j c
   refine We ?_
   rcases condE b with ⟨ak,b⟩ | ⟨ak,b⟩
   ·refine CT ak<|Wg<|M' h6 ?_
    refine WL.w (R.loadBN (i:=0) (vs:=[(str d.fName),(str d.fValue)]) S rfl rfl lay64 rfl rfl)<|W.bslice (α:=GField) [(agg [(str d.fName),(str d.fValue)])] ([d]:List GField) S el26 rfl rfl rfl (by decide) (Go.Eng.encS ⟨rfl,rfl⟩ enc0) ?_
    intro bc bd be av aw S
    have ⟨j,c⟩:=U2 av j c
    refine B b fun bf ax b=>W.app (α:=GField) (i:=2) S el26 rfl rfl rfl j aw ax ?_
    intro ay bg az a0 a1 S
    have ⟨j,c⟩:=U2 a0 j c
    refine A<|We<|Wg<|Lg' x rfl<|M<|We ?_
    obtain rfl:=oi b
    exact ⟨rfl,⟨az,ay,h2,rfl,h7,h8,rfl,a1,c,(S.pk [2])⟩⟩
   refine CF ak<|Wk<|Wg<|Lg' x rfl<|M<|We ?_
   obtain rfl:=oi b
   exact ⟨rfl,⟨ar,l,h2,h6,h7,h8,rfl,j,c,(S.pk [1])⟩⟩
  refine CF aj<|Wx ?_
  obtain rfl:=oi b
  obtain rfl:=an
  exact ⟨p,l,h6,j,S⟩
 rintro f w ⟨ac,u,a2,a3,S⟩
 refine Ws<|Wg<|M' a2<|A<|We ?_
 exact WP.ret (Rl h S a3)
theorem zGQ {i:World} {b:Hp} (hw:Holds i b) (c:(List GField)) (d:Str) {j:Value} (f:Sl b j c) {r:Bool} (h:zDd c d=some r) :
  Cb Tryz.prog 100 [j,(str d)] i b r:=by
 refine CM 11 Tryz.func100 hw fun S=>?_
 refine Ws<|Wg<|A<|We<|Ws<|Wg<|M<|M<|B h fun k l h=>W.call S rfl (zFJ S.holds d l) ?_
 rintro t u v o S ⟨kr1,cr1,rfl,Fr1⟩
 have f:=f.up o
 refine B h fun x p h=>W.call S rfl (zFF S.holds c k f (fun hle=>Fr1 (Hp.le.trans lr hle)) p) ?_
 rintro z w8 H9 ac S q
 refine Nq q<|Lc<|A<|We ?_
 exact WP.ret (Rb h S)
end Go.Proofs
