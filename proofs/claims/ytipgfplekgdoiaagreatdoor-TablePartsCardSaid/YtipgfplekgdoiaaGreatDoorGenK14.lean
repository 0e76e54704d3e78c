/- A part. -/
import Derived.Test.YtipgfplekgdoiaaGreatDoorEng38
import Derived.Test.YtipgfplekgdoiaaGreatDoorEng36
import Derived.Test.YtipgfplekgdoiaaGreatDoorGenK13
namespace Go.Proofs
set_option maxHeartbeats 4000000
set_option maxRecDepth 10000
open Go.Eng Go.Eng.Pure
set_option linter.unusedVariables false
theorem zHo {i:World} {j:Hp} (hw:Holds i j) (q:Str) (c:Str) (d:Str) {r:Bool} (h:zFm q c d=some r) :
  Cb Tryz.prog 56 [(str q),(str c),(str d)] i j r:=by
 refine CM 30 Tryz.func56 hw fun S=>?_
 refine Ws<|Wg<|A<|We<|Ws<|Ws<|Wg<|M<|B h fun k an h=>W.call S rfl (zHm S.holds q an) ?_
 rintro v2 w3 H4 az S rfl
 refine A<|We<|Ws<|Wg<|M<|We<|B h fun ad b h=>WP.cut (fun f w=>match ad with | .inl _=>∃ (H6:Hp),f 1=(str c)∧f 2=(str d)∧St i j w H6 [] | .inr _=>False) ?_ ?_
 ·refine Wb<|Ws<|Ws<|Wg<|Le<|A<|We<|B b fun ao l b=>WP.cut (fun f w=>∃ (p:Hp),f 1=(str c)∧f 2=(str d)∧f 7=(int k)∧f 10=(int k)∧f 11=(boo ao)∧St i j w p []) ?_ ?_
  ·rcases condE l with ⟨t,l⟩ | ⟨t,l⟩
   ·refine CT t<|Wk ?_
    obtain rfl:=oi l
    exact ⟨H4,rfl,rfl,rfl,rfl,rfl,S⟩
   refine CF t<|Wg<|Le<|A<|We ?_
   obtain rfl:=oi l
   exact ⟨H4,rfl,rfl,rfl,rfl,rfl,S⟩
  rintro f w ⟨p,u,v,af,ah,ai,S⟩
  rcases condE b with ⟨x,b⟩ | ⟨x,b⟩
  ·refine WP.condT ai x<|Ws<|Wg<|M' u<|M' v<|B b fun a0 ap b=>W.call S rfl (zDc S.holds c d ap) ?_
   rintro a1 a2 a3 a4 S rfl
   refine A<|We ?_
   obtain rfl:=oi b
   exact WP.ret (Rb h S)
  refine WP.condF ai x<|Ws<|Ws<|Wg<|Le' ah rfl<|A<|We<|B b fun aq o b=>WP.cut (fun f w=>∃ (z:Hp),f 1=(str c)∧f 2=(str d)∧f 7=(int k)∧f 17=(boo aq)∧St i j w z []) ?_ ?_
  ·rcases condE o with ⟨aa,o⟩ | ⟨aa,o⟩
   ·refine CT aa<|Wk ?_
    obtain rfl:=oi o
    exact ⟨p,u,v,af,rfl,S⟩
   refine CF aa<|Wg<|Le' ah rfl<|A<|We ?_
   obtain rfl:=oi o
   exact ⟨p,u,v,af,rfl,S⟩
  rintro f w ⟨z,aj,ak,al,am,S⟩
  rcases condE b with ⟨ab,b⟩ | ⟨ab,b⟩
  ·refine WP.condT am ab<|Ws<|Wg<|M' al<|M' aj<|B b fun a5 ar b=>W.call S rfl (zFT S.holds k c ar) ?_
   rintro a6 a7 a8 a9 S rfl
   refine M' al<|M' ak<|B b fun ba au b=>W.call S rfl (zFT S.holds k d au) ?_
   rintro bb bc bd be S rfl
   refine Na<|A<|We ?_
   obtain rfl:=oi b
   exact WP.ret (Rb h S)
  refine WP.condF am ab<|Wk ?_
  obtain rfl:=oi b
  exact ⟨z,aj,ak,S⟩
 intro f w hM
 rcases ad with _ | e
 ·obtain ⟨H6,h7,h8,S⟩:=hM
  refine Ws<|Wg<|M' h7<|M' h8<|Na<|A<|We ?_
  exact WP.ret (Rb h S)
 exact hM.elim
theorem zHx {t:World} {q:Hp} (hw:Holds t q) (b:GAxis) {k:Value} (c:Sl q k b.fValues) {r:Bool} (h:zDo b=some r) :
  Cb Tryz.prog 97 [(agg [(str b.fName),k])] t q r:=by
 refine CM 63 Tryz.func97 hw fun S=>?_
 refine Ws<|Wg ?_
 refine W.box [(str b.fName),k] S rfl rfl ?_
 intro u w2 S
 refine A<|We<|Ws<|Ws<|WP.quiet S kr kr<|QFb ?_
 refine QB 0 (str b.fName)<|B h fun r6 a0 h=>WQ.call (v:=boo r6) rfl (fun w H' hq S=>zCI S.holds b.fName a0)<|QNo<|QM<|B h fun x p h=>WQ.grp 7 [10,11,12,13,14,15] 16 (boo x) ?_ ?_
 ·rcases boolE (!r6) with d | d
  ·replace p:=condT p d
   refine QGn d<|QGn d<|QGn d<|QGn d<|QGn d<|QGn d<|QPt d ?_
   exact WQ.nil ⟨(ob p),ag⟩
  replace p:=condF p d
  refine QGy d<|QFb<|QGy d ?_
  refine QB 0 (str b.fName)<|QGy d<|B p fun a1 a2 p=>WQ.call (v:=str a1) rfl (fun w H' hq S=>zBm S.holds b.fName a2)<|QGy d<|QFb<|QGy d ?_
  refine QB 0 (str b.fName)<|QGy d<|QNb<|QPf d ?_
  exact WQ.nil ⟨(ob p),ag⟩
 intro us
 refine QM ?_
 refine WQ.grp 5 [18,19,20,21] 22 (boo (x||(decide ((b.fValues.length:Int)<1)))) ?_ ?_
 ·rcases boolE x with l | l
  ·refine QGn l<|QGn l<|QGn l<|QGn l<|QPt l ?_
   exact WQ.nil ⟨(orT l),ag⟩
  refine QGy l<|QFb<|QGy l ?_
  refine QB 0 k<|QGy l<|QNq c<|QGy l<|QLa<|QPf l ?_
  exact WQ.nil ⟨(orF l),ag⟩
 intro us
 refine QM ?_
 refine WQ.grp 5 [24,25,26,27] 28 (boo ((x||(decide ((b.fValues.length:Int)<1)))||(decide (16<(b.fValues.length:Int))))) ?_ ?_
 ·rcases boolE (x||(decide ((b.fValues.length:Int)<1))) with o | o
  ·refine QGn o<|QGn o<|QGn o<|QGn o<|QPt o ?_
   exact WQ.nil ⟨(orT o),ag⟩
  refine QGy o<|QFb<|QGy o ?_
  refine QB 0 k<|QGy o<|QNq c<|QGy o<|QLc<|QPf o ?_
  exact WQ.nil ⟨(orF o),ag⟩
 intro us
 refine WQ.nil ?_
 intro w3 H4 a4 S
 have c:=c.up a4
 rcases condE h with ⟨ah,h⟩ | ⟨ah,h⟩
 ·refine CT ah<|Ws<|Wg<|A<|We ?_
  exact WP.ret (Rb h S)
 refine CF ah<|Wk<|Ws<|Ws<|Wg<|A<|We<|B h fun ai a5 h=>WP.cut (fun f w=>match ai with | .inl _=>∃ (au:Hp),St t q w au [] | .inr _=>False) ?_ ?_
 ·refine Wb ?_
  refine WP.loopM (zBk b) (fun s f w=>match s with | z=>∃ (ab:Hp),f 1=(ptr u 0)∧f 3=(int z)∧Sl ab k b.fValues∧St t q w ab [.box u 68 [(str b.fName),k]]) 0 ai a5 ?_ ?_
  ·exact ⟨H4,rfl,rfl,c,S⟩
  intro z f w hI br i aj
  obtain ⟨ab,ac,ak,c,S⟩:=hI
  refine Ws<|Ws<|Wg<|M' ak<|Fb' ac ?_
  refine Lo 0 S<|Nq c<|La<|We ?_
  rcases condE i with ⟨al,i⟩ | ⟨al,i⟩
  ·refine CT al<|Wk<|Ws<|Wb<|Ws<|Ws<|WP.quiet S kr kr<|QFb' ac ?_
   refine QB 0 (str b.fName)<|QFb' ac ?_
   refine QB 0 k<|QM' ak<|B i fun av a6 i=>WQ.idx (α:=Str) c rfl rfl el34 a6 ?_
   rintro bs _ a7 rfl
   refine QH (str av) a7<|B i fun a8 a9 i=>WQ.call (v:=boo a8) rfl (fun w H' hq S=>zJQ S.holds b.fName av a9)<|QNo<|WQ.nil ?_
   intro bt ba bb S
   have c:=c.up bb
   rcases condE i with ⟨am,i⟩ | ⟨am,i⟩
   ·refine CT am<|Ws<|Wg<|A<|We ?_
    obtain rfl:=oi i
    obtain rfl:=aj
    exact WP.ret (Rb h S)
   refine CF am<|Wk<|Ws<|Wg<|A<|We<|B i fun an bc i=>WP.cut (fun f w=>match an with | .inl _=>∃ (ad:Hp),f 1=(ptr u 0)∧f 3=(int z)∧Sl ad k b.fValues∧St t q w ad [.box u 68 [(str b.fName),k]] | .inr _=>False) ?_ ?_
   ·refine Wb ?_
    refine WP.loopM (zBd b z) (fun s f w=>match s with | aw=>∃ (ae:Hp),f 1=(ptr u 0)∧f 3=(int z)∧f 4=(int aw)∧Sl ae k b.fValues∧St t q w ae [.box u 68 [(str b.fName),k]]) 0 an bc ?_ ?_
    ·exact ⟨ba,ac,ak,rfl,c,S⟩
    intro aw f w hI bu j ax
    obtain ⟨ae,aa,af,ao,c,S⟩:=hI
    refine Ws<|Ws<|Wg<|M' ao<|M' af<|La<|We ?_
    rcases condE j with ⟨ap,j⟩ | ⟨ap,j⟩
    ·refine CT ap<|Wk<|Ws<|Wb<|Ws<|WP.quiet S kr kr<|QFb' aa ?_
     refine QB 0 (str b.fName)<|QFb' aa ?_
     refine QB 0 k<|QM' af<|B j fun ay bd j=>WQ.idx (α:=Str) c rfl rfl el34 bd ?_
     rintro bv _ be rfl
     refine QH (str ay) be<|QFb' aa ?_
     refine QB 0 k<|QM' ao<|B j fun az bf j=>WQ.idx (α:=Str) c rfl rfl el34 bf ?_
     rintro bw _ bg rfl
     refine QH (str az) bg<|B j fun bh bi j=>WQ.call (v:=boo bh) rfl (fun w H' hq S=>zHo S.holds b.fName ay az bi)<|WQ.nil ?_
     intro bx bj bk S
     have c:=c.up bk
     rcases condE j with ⟨aq,j⟩ | ⟨aq,j⟩
     ·refine CT aq<|Ws<|Wg<|A<|We ?_
      obtain rfl:=oi j
      obtain rfl:=ax
      obtain rfl:=oi i
      obtain rfl:=aj
      exact WP.ret (Rb h S)
     refine CF aq<|Wk<|Wg<|M' ao<|Lg<|A<|We ?_
     obtain rfl:=oi j
     exact ⟨rfl,⟨bj,aa,af,rfl,c,S⟩⟩
    refine CF ap<|Wx ?_
    obtain rfl:=oi j
    obtain rfl:=ax
    exact ⟨ae,aa,af,c,S⟩
   intro f w hM
   rcases an with _ | e
   ·obtain ⟨ad,bn,bo,c,S⟩:=hM
    refine Wg<|M' bo<|Lg<|A<|We ?_
    obtain rfl:=oi i
    exact ⟨rfl,⟨ad,bn,rfl,c,S⟩⟩
   exact hM.elim
  refine CF al<|Wx ?_
  obtain rfl:=oi i
  obtain rfl:=aj
  exact ⟨ab,(S.pk [])⟩
 intro f w hM
 rcases ai with _ | e
 ·obtain ⟨au,S⟩:=hM
  refine Ws<|Wg<|A<|We ?_
  exact WP.ret (Rb h S)
 exact hM.elim
theorem zJV {o:World} {k:Hp} (hw:Holds o k) (j:(List GAxis)) {l:Value} (b:Sl k l j) {r:Bool} (h:zGH j=some r) :
  Cb Tryz.prog 64 [l] o k r:=by
 refine CM 41 Tryz.func64 hw fun S=>?_
 refine Ws<|Wg<|A<|We<|Ws<|Ws<|Wg<|M<|Nq b<|La<|M ?_
 refine WL.grp 4 [9,10,11] 12 (boo ((decide ((j.length:Int)<1))||(decide (4<(j.length:Int))))) ?_ ?_
 ·rcases boolE (decide ((j.length:Int)<1)) with i | i
  ·refine Gn i<|Gn i<|Gn i<|Pt i ?_
   exact We ⟨(orT i),ag,rfl⟩
  refine Gy i<|M<|Gy i<|Nq b<|Gy i<|Lc<|Pf i ?_
  exact We ⟨(orF i),ag,rfl⟩
 intro us
 refine We ?_
 rcases condE h with ⟨z,h⟩ | ⟨z,h⟩
 ·refine CT z<|Ws<|Wg<|A<|We ?_
  exact WP.ret (Rb h S)
 refine CF z<|Wk<|Ws<|Ws<|Wg<|A<|We<|B h fun aa ap h=>WP.cut (fun f w=>match aa with | .inl _=>∃ (H8:Hp),St o k w H8 [] | .inr _=>False) ?_ ?_
 ·refine Wb ?_
  refine WP.loopM (zC6 j) (fun s f w=>match s with | p=>∃ (q:Hp),f 0=l∧f 3=(int p)∧Sl q l j∧St o k w q []) 0 aa ap ?_ ?_
  ·exact ⟨k,rfl,rfl,b,S⟩
  intro p f w hI y9 c ab
  obtain ⟨q,h5,h7,b,S⟩:=hI
  refine Ws<|Ws<|Wg<|M' h7<|M' h5<|Nq b<|La<|We ?_
  rcases condE c with ⟨ae,c⟩ | ⟨ae,c⟩
  ·refine CT ae<|Wk<|Ws<|Wb<|Ws<|Ws<|Wg<|M' h5<|M' h7<|B c fun am aq c=>W.idx (α:=GAxis) b rfl rfl el22 aq ?_
   rintro bd _ ar ⟨au,rfl,av⟩
   refine WL.w (R.loadHN (vs:=[(str am.fName),au]) S rfl ar lay68 rfl rfl)<|B c fun be aw c=>W.call S rfl (zHx S.holds am av aw) ?_
   rintro bf bg ax ay S rfl
   have b:=b.up ay
   refine No<|We ?_
   rcases condE c with ⟨af,c⟩ | ⟨af,c⟩
   ·refine CT af<|Ws<|Wg<|A<|We ?_
    obtain rfl:=oi c
    obtain rfl:=ab
    exact WP.ret (Rb h S)
   refine CF af<|Wk<|Ws<|Wg<|A<|We<|B c fun ah az c=>WP.cut (fun f w=>match ah with | .inl _=>∃ (t:Hp),f 0=l∧f 3=(int p)∧Sl t l j∧St o k w t [] | .inr _=>False) ?_ ?_
   ·refine Wb ?_
    refine WP.loopM (zC1 j p) (fun s f w=>match s with | an=>∃ (u:Hp),f 0=l∧f 3=(int p)∧f 4=(int an)∧Sl u l j∧St o k w u []) 0 ah az ?_ ?_
    ·exact ⟨ax,h5,h7,rfl,b,S⟩
    intro an f w hI bh d ao
    obtain ⟨u,v,x,ai,b,S⟩:=hI
    refine Ws<|Ws<|Wg<|M' ai<|M' x<|La<|We ?_
    rcases condE d with ⟨aj,d⟩ | ⟨aj,d⟩
    ·refine CT aj<|Wk<|Ws<|Wb<|Ws<|WP.quiet S kr kr<|QM' v<|QM' x<|B d fun a0 a1 d=>WQ.idx (α:=GAxis) b rfl rfl el22 a1 ?_
     rintro bi _ a2 ⟨bj,rfl,bk⟩
     refine QFc ?_
     have a3:=At.add a2 0 (by simp)
     refine QH (str a0.fName) a3<|QM' v<|QM' ai<|B d fun a4 a5 d=>WQ.idx (α:=GAxis) b rfl rfl el22 a5 ?_
     rintro bn _ a6 ⟨bo,rfl,bp⟩
     refine QFc ?_
     have a7:=At.add a6 0 (by simp)
     refine QH (str a4.fName) a7<|QNa<|WQ.nil ?_
     intro bq a8 a9 S
     have b:=b.up a9
     rcases condE d with ⟨ak,d⟩ | ⟨ak,d⟩
     ·refine CT ak<|Ws<|Wg<|A<|We ?_
      obtain rfl:=oi d
      obtain rfl:=ao
      obtain rfl:=oi c
      obtain rfl:=ab
      exact WP.ret (Rb h S)
     refine CF ak<|Wk<|Wg<|M' ai<|Lg<|A<|We ?_
     obtain rfl:=oi d
     exact ⟨rfl,⟨a8,v,x,rfl,b,S⟩⟩
    refine CF aj<|Wx ?_
    obtain rfl:=oi d
    obtain rfl:=ao
    exact ⟨u,v,x,b,S⟩
   intro f w hM
   rcases ah with _ | e
   ·obtain ⟨t,ba,bb,b,S⟩:=hM
    refine Wg<|M' bb<|Lg<|A<|We ?_
    obtain rfl:=oi c
    exact ⟨rfl,⟨t,ba,rfl,b,S⟩⟩
   exact hM.elim
  refine CF ae<|Wx ?_
  obtain rfl:=oi c
  obtain rfl:=ab
  exact ⟨q,S⟩
 intro f w hM
 rcases aa with _ | e
 ·obtain ⟨H8,S⟩:=hM
  refine Ws<|Wg<|A<|We ?_
  exact WP.ret (Rb h S)
 exact hM.elim
theorem zHI {w0:World} {u:Hp} (hw:Holds w0 u) (ai:(List GAxis)) (b:GEntry) {ae:Value} {t:Value} {p:Value} {v:Value} {x:Value} (o:Sl u ae ai) (d:Sl u t b.fKeys) (i:Sl u p b.fVary) (j:Sl u v b.fSnapshot) (k:Sl u x b.fFields) {r:Bool} (h:zDD ai b=some r) :
  Cb Tryz.prog 65 [ae,(agg [t,p,v,(str b.fReason),x,(str b.fBody),(int b.fRequested),(int b.fReceived)])] w0 u r:=by
 refine CM 119 Tryz.func65 hw fun S=>?_
 refine Ws<|Wg ?_
 refine W.box [t,p,v,(str b.fReason),x,(str b.fBody),(int b.fRequested),(int b.fReceived)] S rfl rfl ?_
 intro z w2 S
 refine A<|We<|Ws<|Ws<|Wg<|M<|Nq o<|Le<|We ?_
 rcases condE h with ⟨az,h⟩ | ⟨az,h⟩
 ·refine CT az<|Ws<|Ws<|Wg<|A<|We<|B h fun a0 bx h=>WP.cut (fun f w=>match a0 with | .inl _=>∃ (H8:Hp),f 3=(ptr z 0)∧Sl H8 t b.fKeys∧Sl H8 p b.fVary∧Sl H8 v b.fSnapshot∧Sl H8 x b.fFields∧St w0 u w H8 [.box z 36 [t,p,v,(str b.fReason),x,(str b.fBody),(int b.fRequested),(int b.fReceived)]] | .inr _=>False) ?_ ?_
  ·refine Wb ?_
   refine WP.loopM (zBU b) (fun s f w=>match s with | bk=>∃ (H4:Hp),f 3=(ptr z 0)∧f 5=(int bk)∧Sl H4 t b.fKeys∧Sl H4 p b.fVary∧Sl H4 v b.fSnapshot∧Sl H4 x b.fFields∧St w0 u w H4 [.box z 36 [t,p,v,(str b.fReason),x,(str b.fBody),(int b.fRequested),(int b.fReceived)]]) 1 a0 bx ?_ ?_
   ·exact ⟨u,rfl,rfl,d,i,j,k,S⟩
   intro bk f w hI da ac bn
   obtain ⟨H4,h5,h7,d,i,j,k,S⟩:=hI
   refine Ws<|Ws<|Wg<|M' h7<|Fb' h5 ?_
   refine Lo 0 S<|Nq i<|La<|We ?_
   rcases condE ac with ⟨a1,ac⟩ | ⟨a1,ac⟩
   ·refine CT a1<|Wk<|Ws<|Wb<|Ws<|WP.quiet S kr kr<|QFb' h5 ?_
    refine QB 0 p<|QM' h7<|QLh<|B ac fun bz b0 ac=>WQ.idx (α:=Str) i rfl rfl el34 b0 ?_
    rintro db _ b2 rfl
    refine QH (str bz) b2<|QFb' h5 ?_
    refine QB 0 p<|QM' h7<|B ac fun b3 b4 ac=>WQ.idx (α:=Str) i rfl rfl el34 b4 ?_
    rintro dc _ b5 rfl
    refine QH (str b3) b5<|QNf<|WQ.nil ?_
    intro dd b6 b7 S
    have ⟨i,d,j,k⟩:=U4 b7 i d j k
    rcases condE ac with ⟨a2,ac⟩ | ⟨a2,ac⟩
    ·refine CT a2<|Ws<|Wg<|A<|We ?_
     obtain rfl:=oi ac
     obtain rfl:=bn
     exact WP.ret (Rb h S)
    refine CF a2<|Wk<|Wg<|M' h7<|Lg<|A<|We ?_
    obtain rfl:=oi ac
    exact ⟨rfl,⟨b6,h5,rfl,d,i,j,k,S⟩⟩
   refine CF a1<|Wx ?_
   obtain rfl:=oi ac
   obtain rfl:=bn
   exact ⟨H4,h5,d,i,j,k,S⟩
  intro f w hM
  rcases a0 with _ | e
  ·obtain ⟨H8,h9,d,i,j,k,S⟩:=hM
   refine Ws<|Wg<|Fb' h9 ?_
   refine Lo 0 S<|Nq d<|Le<|M ?_
   refine WL.grp 8 [37,38,39,40,41,42,43] 44 (boo (((b.fKeys.length:Int)==0)&&((b.fVary.length:Int)==(b.fSnapshot.length:Int)))) ?_ ?_
   ·rcases boolE ((b.fKeys.length:Int)==0) with q | q
    ·refine Gy q<|Fb' h9<|Gy q ?_
     refine Lo 0 S<|Gy q<|Nq i<|Gy q<|Fb' h9<|Gy q ?_
     refine Lo 0 S<|Gy q<|Nq j ?_
     refine Gy q<|Le<|Pt q ?_
     exact We ⟨(andT q),ag,rfl⟩
    refine Gn q<|Gn q<|Gn q<|Gn q<|Gn q<|Gn q<|Gn q<|Pf q ?_
    exact We ⟨(andF q),ag,rfl⟩
   intro us
   refine A<|We ?_
   exact WP.ret (Rb h S)
  exact hM.elim
 refine CF az<|Wk<|Ws<|Ws<|Wg<|Fb ?_
 refine Lo 0 S<|Nq d<|La<|M ?_
 refine WL.grp 5 [50,51,52,53] 54 (boo ((decide ((b.fKeys.length:Int)<1))||(decide (64<(b.fKeys.length:Int))))) ?_ ?_
 ·rcases boolE (decide ((b.fKeys.length:Int)<1)) with ad | ad
  ·refine Gn ad<|Gn ad<|Gn ad<|Gn ad<|Pt ad ?_
   exact We ⟨(orT ad),ag,rfl⟩
  refine Gy ad<|Fb<|Gy ad ?_
  refine Lo 0 S<|Gy ad<|Nq d<|Gy ad<|Lc<|Pf ad ?_
  exact We ⟨(orF ad),ag,rfl⟩
 intro us
 refine M ?_
 refine WL.grp 9 [56,57,58,59,60,61,62,63] 64 (boo (((decide ((b.fKeys.length:Int)<1))||(decide (64<(b.fKeys.length:Int))))||(decide (0<(wr ((b.fVary.length:Int)+(b.fSnapshot.length:Int))))))) ?_ ?_
 ·rcases boolE ((decide ((b.fKeys.length:Int)<1))||(decide (64<(b.fKeys.length:Int)))) with l | l
  ·refine Gn l<|Gn l<|Gn l<|Gn l<|Gn l<|Gn l<|Gn l<|Gn l<|Pt l ?_
   exact We ⟨(orT l),ag,rfl⟩
  refine Gy l<|Fb<|Gy l ?_
  refine Lo 0 S<|Gy l<|Nq i<|Gy l<|Fb<|Gy l ?_
  refine Lo 0 S<|Gy l<|Nq j ?_
  refine Gy l<|Lg<|Gy l<|Lc<|Pf l ?_
  exact We ⟨(orF l),ag,rfl⟩
 intro us
 refine We ?_
 rcases condE h with ⟨a4,h⟩ | ⟨a4,h⟩
 ·refine CT a4<|Ws<|Wg<|A<|We ?_
  exact WP.ret (Rb h S)
 refine CF a4<|Wk<|Ws<|Ws<|Wg<|A<|We<|B h fun a5 b8 h=>WP.cut (fun f w=>match a5 with | .inl _=>∃ (bo:Hp),St w0 u w bo [] | .inr _=>False) ?_ ?_
 ·refine Wb ?_
  refine WP.loopM (zA6 ai b) (fun s f w=>match s with | am=>∃ (aj:Hp),f 0=ae∧f 3=(ptr z 0)∧f 6=(int am)∧Sl aj ae ai∧Sl aj t b.fKeys∧Sl aj p b.fVary∧Sl aj v b.fSnapshot∧Sl aj x b.fFields∧St w0 u w aj [.box z 36 [t,p,v,(str b.fReason),x,(str b.fBody),(int b.fRequested),(int b.fReceived)]]) 0 a5 b8 ?_ ?_
  ·exact ⟨u,rfl,rfl,rfl,o,d,i,j,k,S⟩
  intro am f w hI de aa a6
  obtain ⟨aj,bp,a7,a8,o,d,i,j,k,S⟩:=hI
  refine Ws<|Ws<|Wg<|M' a8<|Fb' a7 ?_
  refine Lo 0 S<|Nq d<|La<|We ?_
  rcases condE aa with ⟨a9,aa⟩ | ⟨a9,aa⟩
  ·refine CT a9<|Wk<|Ws<|Wb<|Ws<|Ws<|Wg<|Fb' a7 ?_
   refine Lo 0 S<|M' a8<|B aa fun df b9 aa=>W.idx (α:=(List Str)) d rfl rfl el33 b9 ?_
   rintro dh _ ca ⟨di,rfl,cb⟩
   refine Lq S ca<|Nq cb<|M' bp<|Nq o<|Lf<|We ?_
   rcases condE aa with ⟨ba,aa⟩ | ⟨ba,aa⟩
   ·refine CT ba<|Ws<|Wg<|A<|We ?_
    obtain rfl:=oi aa
    obtain rfl:=a6
    exact WP.ret (Rb h S)
   refine CF ba<|Wk<|Ws<|Wg<|A<|We<|B aa fun bb cc aa=>WP.cut (fun f w=>match bb with | .inl _=>∃ (an:Hp),f 0=ae∧f 3=(ptr z 0)∧f 6=(int am)∧Sl an ae ai∧Sl an t b.fKeys∧Sl an p b.fVary∧Sl an v b.fSnapshot∧Sl an x b.fFields∧St w0 u w an [.box z 36 [t,p,v,(str b.fReason),x,(str b.fBody),(int b.fRequested),(int b.fReceived)]] | .inr _=>False) ?_ ?_
   ·refine Wb ?_
    refine WP.loopM (zAu ai b am) (fun s f w=>match s with | av=>∃ (ak:Hp),f 0=ae∧f 3=(ptr z 0)∧f 6=(int am)∧f 7=(int av)∧Sl ak ae ai∧Sl ak t b.fKeys∧Sl ak p b.fVary∧Sl ak v b.fSnapshot∧Sl ak x b.fFields∧St w0 u w ak [.box z 36 [t,p,v,(str b.fReason),x,(str b.fBody),(int b.fRequested),(int b.fReceived)]]) 0 bb cc ?_ ?_
    ·exact ⟨aj,bp,a7,a8,rfl,o,d,i,j,k,S⟩
    intro av f w hI dj af bq
    obtain ⟨ak,bc,br,bs,bt,o,d,i,j,k,S⟩:=hI
    refine Ws<|Ws<|Wg<|M' bt<|M' bc<|Nq o<|La<|We ?_
    rcases condE af with ⟨bd,af⟩ | ⟨bd,af⟩
    ·refine CT bd<|Wk<|Ws<|Wb<|Ws<|Wg<|A<|We<|Ws<|Ws<|Wg<|A ?_
     refine We<|B af fun bu cd af=>WP.cut (fun f w=>∃ (ao:Hp),f 0=ae∧f 3=(ptr z 0)∧f 6=(int am)∧f 7=(int av)∧f 8=(boo bu)∧Sl ao ae ai∧Sl ao t b.fKeys∧Sl ao p b.fVary∧Sl ao v b.fSnapshot∧Sl ao x b.fFields∧St w0 u w ao [.box z 36 [t,p,v,(str b.fReason),x,(str b.fBody),(int b.fRequested),(int b.fReceived)]]) ?_ ?_
     ·refine Wb ?_
      refine WP.loopM (zA5 ai b am av) (fun s f w=>match s with | (be,bv)=>∃ (ap:Hp),f 0=ae∧f 3=(ptr z 0)∧f 6=(int am)∧f 7=(int av)∧f 8=(boo be)∧f 9=(int bv)∧Sl ap ae ai∧Sl ap t b.fKeys∧Sl ap p b.fVary∧Sl ap v b.fSnapshot∧Sl ap x b.fFields∧St w0 u w ap [.box z 36 [t,p,v,(str b.fReason),x,(str b.fBody),(int b.fRequested),(int b.fReceived)]]) (false,0) bu cd ?_ ?_
      ·exact ⟨ak,bc,br,bs,bt,rfl,rfl,o,d,i,j,k,S⟩
      intro s f w hI dk al ce
      obtain ⟨be,bv⟩:=s
      obtain ⟨ap,ay,bf,bg,aw,bw,bh,o,d,i,j,k,S⟩:=hI
      refine Ws<|Ws<|Wg<|M' bh<|M' ay<|M' aw<|B al fun dl cf al=>W.idx (α:=GAxis) o rfl rfl el22 cf ?_
      rintro dm _ cg ⟨dn,rfl,ch⟩
      refine Fc ?_
      have ci:=At.add cg 1 (by simp)
      refine Lq S ci<|Nq ch<|La<|We ?_
      rcases condE al with ⟨bi,al⟩ | ⟨bi,al⟩
      ·refine CT bi<|Wk<|Ws<|Wb<|WP.quiet S kr kr<|QM' bw<|QM<|B al fun cj ab al=>WQ.grp 18 [99,100,101,102,103,104,105,106,107,108,109,110,111,112,113,114,115] 116 (boo cj) ?_ ?_
       ·rcases boolE be with c | c
        ·replace ab:=condT ab c
         refine QGn c<|QGn c<|QGn c<|QGn c<|QGn c<|QGn c<|QGn c<|QGn c<|QGn c<|QGn c<|QGn c<|QGn c ?_
         refine QGn c<|QGn c<|QGn c<|QGn c<|QGn c<|QPt c ?_
         exact WQ.nil ⟨(ob ab),ag⟩
        replace ab:=condF ab c
        refine QGy c<|QM' ay<|QGy c<|QM' aw<|QGy c<|B ab fun dp ck ab=>WQ.idx (α:=GAxis) o rfl rfl el22 ck ?_
        rintro dq _ cl ⟨cm,rfl,cn⟩
        refine QGy c<|QFc ?_
        have co:=At.add cl 1 (by simp)
        refine QGy c ?_
        refine QH cm co<|QGy c<|QM' bh<|QGy c<|B ab fun cp cq ab=>WQ.idx (α:=Str) cn rfl rfl el34 cq ?_
        rintro dr _ cr rfl
        refine QGy c ?_
        refine QH (str cp) cr<|QGy c<|QFb' bf<|QGy c ?_
        refine QB 0 t<|QGy c<|QM' bg<|QGy c<|B ab fun ds cs ab=>WQ.idx (α:=(List Str)) d rfl rfl el33 cs ?_
        rintro dt _ ct ⟨cu,rfl,cv⟩
        refine QGy c ?_
        refine QH cu ct<|QGy c<|QM' aw<|QGy c<|B ab fun cw cx ab=>WQ.idx (α:=Str) cv rfl rfl el34 cx ?_
        rintro du _ cy rfl
        refine QGy c ?_
        refine QH (str cw) cy<|QGy c<|QNa<|QPf c ?_
        exact WQ.nil ⟨(ob ab),ag⟩
       intro us
       refine QA<|WQ.nil ?_
       intro dw cz c0 S
       have ⟨o,d,i,j,k⟩:=U5 c0 o d i j k
       refine Wg<|M' bh<|Lg<|A<|We ?_
       obtain rfl:=oi al
       exact ⟨rfl,⟨cz,ay,bf,bg,aw,rfl,rfl,o,d,i,j,k,S⟩⟩
      refine CF bi<|Wx ?_
      obtain rfl:=oi al
      obtain rfl:=ce
      exact ⟨ap,ay,bf,bg,aw,bw,o,d,i,j,k,S⟩
     rintro f w ⟨ao,c1,c2,c3,c4,c5,o,d,i,j,k,S⟩
     refine Ws<|Wg<|M' c5<|No<|We ?_
     rcases condE af with ⟨bj,af⟩ | ⟨bj,af⟩
     ·refine CT bj<|Ws<|Wg<|A<|We ?_
      obtain rfl:=oi af
      obtain rfl:=bq
      obtain rfl:=oi aa
      obtain rfl:=a6
      exact WP.ret (Rb h S)
     refine CF bj<|Wk<|Wg<|M' c4<|Lg<|A<|We ?_
     obtain rfl:=oi af
     exact ⟨rfl,⟨ao,c1,c2,c3,rfl,o,d,i,j,k,S⟩⟩
    refine CF bd<|Wx ?_
    obtain rfl:=oi af
    obtain rfl:=bq
    exact ⟨ak,bc,br,bs,o,d,i,j,k,S⟩
   intro f w hM
   rcases bb with _ | e
   ·obtain ⟨an,c6,c7,c8,o,d,i,j,k,S⟩:=hM
    refine Wg<|M' c8<|Lg<|A<|We ?_
    obtain rfl:=oi aa
    exact ⟨rfl,⟨an,c6,c7,rfl,o,d,i,j,k,S⟩⟩
   exact hM.elim
  refine CF a9<|Wx ?_
  obtain rfl:=oi aa
  obtain rfl:=a6
  exact ⟨aj,(S.pk [])⟩
 intro f w hM
 rcases a5 with _ | e
 ·obtain ⟨bo,S⟩:=hM
  refine Ws<|Wg<|A<|We ?_
  exact WP.ret (Rb h S)
 exact hM.elim
theorem zIS {u:World} {i:Hp} (hw:Holds u i) (j:(List GAxis)) (o:(List Str)) (q:(List Str)) {x:Value} {z:Value} {aa:Value} (d:Sl i x j) (k:Sl i z o) (l:Sl i aa q) {r:Bool} (h:zEy j o q=some r) :
  Cb Tryz.prog 22 [x,z,aa] u i r:=by
 refine CM 41 Tryz.func22 hw fun S=>?_
 refine Ws<|Wg<|A<|We<|Ws<|Ws<|Wg<|M<|Nq k<|M<|Nq d<|Lf ?_
 refine M ?_
 refine WL.grp 6 [14,15,16,17,18] 19 (boo (((o.length:Int) !=(j.length:Int))||((q.length:Int) !=(j.length:Int)))) ?_ ?_
 ·rcases boolE ((o.length:Int) !=(j.length:Int)) with c | c
  ·refine Gn c<|Gn c<|Gn c<|Gn c<|Gn c<|Pt c ?_
   exact We ⟨(orT c),ag,rfl⟩
  refine Gy c<|M<|Gy c<|Nq l<|Gy c<|M<|Gy c<|Nq d<|Gy c<|Lf<|Pf c ?_
  exact We ⟨(orF c),ag,rfl⟩
 intro us
 refine We ?_
 rcases condE h with ⟨ab,h⟩ | ⟨ab,h⟩
 ·refine CT ab<|Ws<|Wg<|A<|We ?_
  exact WP.ret (Rb h S)
 refine CF ab<|Wk<|Ws<|Ws<|Wg<|A<|We<|B h fun ac ap h=>WP.cut (fun f w=>match ac with | .inl _=>∃ (ah:Hp),St u i w ah [] | .inr _=>False) ?_ ?_
 ·refine Wb ?_
  refine WP.loopM (zBb j o q) (fun s f w=>match s with | ai=>∃ (p:Hp),f 0=x∧f 1=z∧f 2=aa∧f 7=(int ai)∧Sl p x j∧Sl p z o∧Sl p aa q∧St u i w p []) 0 ac ap ?_ ?_
  ·exact ⟨i,rfl,rfl,rfl,rfl,d,k,l,S⟩
  intro ai f w hI a3 b aj
  obtain ⟨p,h5,h6,h7,t,d,k,l,S⟩:=hI
  refine Ws<|Ws<|Wg<|M' t<|M' h5<|Nq d<|La<|We ?_
  rcases condE b with ⟨ae,b⟩ | ⟨ae,b⟩
  ·refine CT ae<|Wk<|Ws<|Wb<|Ws<|WP.quiet S kr kr<|QM' h5<|QM' t<|B b fun am aq b=>WQ.idx (α:=GAxis) d rfl rfl el22 aq ?_
   rintro a4 _ ar ⟨a5,rfl,a6⟩
   refine QFc ?_
   have au:=At.add ar 0 (by simp)
   refine QH (str am.fName) au<|QM' h6<|QM' t<|B b fun an av b=>WQ.idx (α:=Str) k rfl rfl el34 av ?_
   rintro a7 _ aw rfl
   refine QH (str an) aw<|QM' h7<|QM' t<|B b fun ao ax b=>WQ.idx (α:=Str) l rfl rfl el34 ax ?_
   rintro a8 _ ay rfl
   refine QH (str ao) ay<|B b fun az a0 b=>WQ.call (v:=boo az) rfl (fun w H' hq S=>zHo S.holds am.fName an ao a0)<|QNo<|WQ.nil ?_
   intro a9 a1 a2 S
   have ⟨d,k,l⟩:=U3 a2 d k l
   rcases condE b with ⟨af,b⟩ | ⟨af,b⟩
   ·refine CT af<|Ws<|Wg<|A<|We ?_
    obtain rfl:=oi b
    obtain rfl:=aj
    exact WP.ret (Rb h S)
   refine CF af<|Wk<|Wg<|M' t<|Lg<|A<|We ?_
   obtain rfl:=oi b
   exact ⟨rfl,⟨a1,h5,h6,h7,rfl,d,k,l,S⟩⟩
  refine CF ae<|Wx ?_
  obtain rfl:=oi b
  obtain rfl:=aj
  exact ⟨p,S⟩
 intro f w hM
 rcases ac with _ | e
 ·obtain ⟨ah,S⟩:=hM
  refine Ws<|Wg<|A<|We ?_
  exact WP.ret (Rb h S)
 exact hM.elim
theorem zKa {w0:World} {d:Hp} (hw:Holds w0 d) (o:(List GAxis)) (b:GEntry) (p:(List Str)) {ac:Value} {q:Value} {t:Value} {u:Value} {v:Value} {ad:Value} (k:Sl d ac o) (j:Sl d q b.fKeys) (x:Sl d t b.fVary) (z:Sl d u b.fSnapshot) (aa:Sl d v b.fFields) (l:Sl d ad p) {r:Bool} (h:zH3 o b p=some r) :
  Cb Tryz.prog 40 [ac,(agg [q,t,u,(str b.fReason),v,(str b.fBody),(int b.fRequested),(int b.fReceived)]),ad] w0 d r:=by
 refine CM 23 Tryz.func40 hw fun S=>?_
 refine Ws<|Wg ?_
 refine W.box [q,t,u,(str b.fReason),v,(str b.fBody),(int b.fRequested),(int b.fReceived)] S rfl rfl ?_
 intro b1 w2 S
 refine A<|We<|Ws<|Ws<|Wg<|A<|We<|B h fun ae aq h=>WP.cut (fun f w=>match ae with | .inl _=>∃ (H9:Hp),St w0 d w H9 [] | .inr _=>False) ?_ ?_
 ·refine Wb ?_
  refine WP.loopM (zES o b p) (fun s f w=>match s with | am=>∃ (i:Hp),f 0=ac∧f 2=ad∧f 4=(ptr b1 0)∧f 7=(int am)∧Sl i ac o∧Sl i ad p∧Sl i q b.fKeys∧Sl i t b.fVary∧Sl i u b.fSnapshot∧Sl i v b.fFields∧St w0 d w i [.box b1 36 [q,t,u,(str b.fReason),v,(str b.fBody),(int b.fRequested),(int b.fReceived)]]) 0 ae aq ?_ ?_
  ·exact ⟨d,rfl,rfl,rfl,rfl,k,l,j,x,z,aa,S⟩
  intro am f w hI a1 c an
  obtain ⟨i,h4,h5,h6,h8,k,l,j,x,z,aa,S⟩:=hI
  refine Ws<|Ws<|Wg<|M' h8<|Fb' h6 ?_
  refine Lo 0 S<|Nq j<|La<|We ?_
  rcases condE c with ⟨ai,c⟩ | ⟨ai,c⟩
  ·refine CT ai<|Wk<|Ws<|Wb<|Ws<|Wg<|M' h4<|Fb' h6 ?_
   refine Lo 0 S<|M' h8<|B c fun ar au c=>W.idx (α:=(List Str)) j rfl rfl el33 au ?_
   rintro a2 _ av ⟨a3,rfl,aw⟩
   refine Lq S av<|M' h5<|B c fun a4 ax c=>W.call S rfl (zIS S.holds o ar p k aw l ax) ?_
   rintro a5 a6 ay az S rfl
   have ⟨k,l,j,x,z,aa⟩:=U6 az k l j x z aa
   refine We ?_
   rcases condE c with ⟨aj,c⟩ | ⟨aj,c⟩
   ·refine CT aj<|Ws<|Wg<|A<|We ?_
    obtain rfl:=oi c
    obtain rfl:=an
    exact WP.ret (Rb h S)
   refine CF aj<|Wk<|Wg<|M' h8<|Lg<|A<|We ?_
   obtain rfl:=oi c
   exact ⟨rfl,⟨ay,h4,h5,h6,rfl,k,l,j,x,z,aa,S⟩⟩
  refine CF ai<|Wx ?_
  obtain rfl:=oi c
  obtain rfl:=an
  exact ⟨i,(S.pk [])⟩
 intro f w hM
 rcases ae with _ | e
 ·obtain ⟨H9,S⟩:=hM
  refine Ws<|Wg<|A<|We ?_
  exact WP.ret (Rb h S)
 exact hM.elim
theorem zIF {w0:World} {d:Hp} (hw:Holds w0 d) (an:(List GAxis)) (c:GEntry) (b:GEntry) {ao:Value} {ad:Value} {aj:Value} {ak:Value} {al:Value} {ae:Value} {af:Value} {ah:Value} {ai:Value} (k:Sl d ao an) (l:Sl d ad c.fKeys) (t:Sl d aj c.fVary) (u:Sl d ak c.fSnapshot) (ab:Sl d al c.fFields) (x:Sl d ae b.fKeys) (o:Sl d af b.fVary) (p:Sl d ah b.fSnapshot) (z:Sl d ai b.fFields) {r:Bool} (h:zEH an c b=some r) :
  Cb Tryz.prog 52 [ao,(agg [ad,aj,ak,(str c.fReason),al,(str c.fBody),(int c.fRequested),(int c.fReceived)]),(agg [ae,af,ah,(str b.fReason),ai,(str b.fBody),(int b.fRequested),(int b.fReceived)])] w0 d r:=by
 refine CM 38 Tryz.func52 hw fun S=>?_
 refine Ws<|Wg ?_
 refine W.box [ad,aj,ak,(str c.fReason),al,(str c.fBody),(int c.fRequested),(int c.fReceived)] S rfl rfl ?_
 intro b1 w2 S
 refine W.box [ae,af,ah,(str b.fReason),ai,(str b.fBody),(int b.fRequested),(int b.fReceived)] S rfl rfl ?_
 intro b3 w4 S
 refine A<|We<|Ws<|Ws<|Wg<|M<|Nq k<|Le<|We ?_
 rcases condE h with ⟨ar,h⟩ | ⟨ar,h⟩
 ·refine CT ar<|Ws<|Wg<|Fb ?_
  refine Lo 1 S<|Fb ?_
  refine Lo 0 S<|B h fun r6 a7 h=>W.call S rfl (zA1 S.holds c.fVary b.fVary t o a7) ?_
  rintro v7 w8 H9 a8 S rfl
  have ⟨k,l,t,u,ab,x,o,p,z⟩:=U9 a8 k l t u ab x o p z
  refine M<|B h fun a9 ac h=>WL.grpw 6 [17,18,19,20,21] 22 (boo a9) (fun w=>∃ H':Hp,H9.le H'∧St w0 d w H' [.box b3 36 [ae,af,ah,(str b.fReason),ai,(str b.fBody),(int b.fRequested),(int b.fReceived)],.box b1 36 [ad,aj,ak,(str c.fReason),al,(str c.fBody),(int c.fRequested),(int c.fReceived)]]) ?_ ?_
  ·rcases boolE r6 with j | j
   ·replace ac:=condT ac j
    refine Gy j<|Fb<|Gy j ?_
    refine Lo 1 S<|Gy j<|Fb<|Gy j ?_
    refine Lo 0 S<|Gy j<|B ac fun bt ba ac=>W.call S rfl (zA1 S.holds c.fSnapshot b.fSnapshot u p ba) ?_
    rintro bu bv bb a0 S rfl
    have ⟨k,l,t,u,ab,x,o,p,z⟩:=U9 a0 k l t u ab x o p z
    refine Pt j ?_
    exact We ⟨(ob ac),ag,⟨bb,a0,S⟩⟩
   replace ac:=condF ac j
   refine Gn j<|Gn j<|Gn j<|Gn j<|Gn j<|Pf j ?_
   exact We ⟨(ob ac),ag,⟨H9,lr,S⟩⟩
  intro us bw ⟨bx,bc,S⟩
  have ⟨k,l,t,u,ab,x,o,p,z⟩:=U9 bc k l t u ab x o p z
  refine A<|We ?_
  exact WP.ret (Rb h S)
 refine CF ar<|Wk<|Ws<|Ws<|Wg<|A<|We<|B h fun au bd h=>WP.cut (fun f w=>match au with | .inl _=>∃ (a1:Hp),St w0 d w a1 [] | .inr _=>False) ?_ ?_
 ·refine Wb ?_
  refine WP.loopM (zBz an c b) (fun s f w=>match s with | a2=>∃ (aa:Hp),f 0=ao∧f 4=(ptr b1 0)∧f 5=(ptr b3 0)∧f 7=(int a2)∧Sl aa ao an∧Sl aa ae b.fKeys∧Sl aa af b.fVary∧Sl aa ah b.fSnapshot∧Sl aa ai b.fFields∧Sl aa ad c.fKeys∧Sl aa aj c.fVary∧Sl aa ak c.fSnapshot∧Sl aa al c.fFields∧St w0 d w aa [.box b3 36 [ae,af,ah,(str b.fReason),ai,(str b.fBody),(int b.fRequested),(int b.fReceived)],.box b1 36 [ad,aj,ak,(str c.fReason),al,(str c.fBody),(int c.fRequested),(int c.fReceived)]]) 0 au bd ?_ ?_
  ·exact ⟨d,rfl,rfl,rfl,rfl,k,x,o,p,z,l,t,u,ab,S⟩
  intro a2 f w hI bz q a3
  obtain ⟨aa,a4,av,a5,aw,k,x,o,p,z,l,t,u,ab,S⟩:=hI
  refine Ws<|Ws<|Wg<|M' aw<|Fb' av ?_
  refine Lo 1 S<|Nq l<|La<|We ?_
  rcases condE q with ⟨ax,q⟩ | ⟨ax,q⟩
  ·refine CT ax<|Wk<|Ws<|Wb<|Ws<|WP.quiet S kr kr<|QM' a4 ?_
   refine WQ.val (fun w hw=>by obtain ⟨_,hq,S⟩:=hw; exact (R.loadBN (i:=0) (vs:=[ae,af,ah,(str b.fReason),ai,(str b.fBody),(int b.fRequested),(int b.fReceived)]) S a5 rfl lay36 rfl rfl))<|QFb' av ?_
   refine QB 1 ad<|QM' aw<|B q fun be bf q=>WQ.idx (α:=(List Str)) l rfl rfl el33 bf ?_
   rintro b0 _ bg ⟨bh,rfl,bi⟩
   refine QH bh bg<|B q fun bj bk q=>WQ.call (v:=boo bj) rfl (fun w H' hq S=>zKa S.holds an b be (k.up hq) (x.up hq) (o.up hq) (p.up hq) (z.up hq) (bi.up hq) bk)<|WQ.nil ?_
   intro b2 bn bo S
   have ⟨k,l,x,o,p,z,t,u,ab⟩:=U9 bo k l x o p z t u ab
   rcases condE q with ⟨ay,q⟩ | ⟨ay,q⟩
   ·refine CT ay<|Ws<|Wg<|A<|We ?_
    obtain rfl:=oi q
    obtain rfl:=a3
    exact WP.ret (Rb h S)
   refine CF ay<|Wk<|Wg<|M' aw<|Lg<|A<|We ?_
   obtain rfl:=oi q
   exact ⟨rfl,⟨bn,a4,av,a5,rfl,k,x,o,p,z,l,t,u,ab,S⟩⟩
  refine CF ax<|Wx ?_
  obtain rfl:=oi q
  obtain rfl:=a3
  exact ⟨aa,(S.pk [])⟩
 intro f w hM
 rcases au with _ | e
 ·obtain ⟨a1,S⟩:=hM
  refine Ws<|Wg<|A<|We ?_
  exact WP.ret (Rb h S)
 exact hM.elim
end Go.Proofs
