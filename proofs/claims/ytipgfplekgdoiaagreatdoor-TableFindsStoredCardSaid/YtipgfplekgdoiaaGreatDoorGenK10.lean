/- A part. -/
import Derived.Test.YtipgfplekgdoiaaGreatDoorEng38
import Derived.Test.YtipgfplekgdoiaaGreatDoorEng33
import Derived.Test.YtipgfplekgdoiaaGreatDoorGenK9
namespace Go.Proofs
set_option maxHeartbeats 4000000
set_option maxRecDepth 10000
open Go.Eng Go.Eng.Pure
set_option linter.unusedVariables false
theorem zFz {t:World} {q:Hp} (hw:Holds t q) (b:GAxis) {k:Value} (c:Sl q k b.fValues) {r:Bool} (h:zCu b=some r) :
  Cb Tryz.prog 97 [(agg [(str b.fName),k])] t q r:=by
 refine CM 63 Tryz.func97 hw fun S=>?_
 refine Ws<|Wg ?_
 refine W.box [(str b.fName),k] S rfl rfl ?_
 intro u w2 S
 refine A<|We<|Ws<|Ws<|WP.quiet S kr kr<|QFb ?_
 refine QB 0 (str b.fName)<|B h fun r6 a0 h=>WQ.call (v:=boo r6) rfl (fun w H' hq S=>zA4 S.holds b.fName a0)<|QNo<|QM<|B h fun x p h=>WQ.grp 7 [10,11,12,13,14,15] 16 (boo x) ?_ ?_
 ·rcases boolE (!r6) with d | d
  ·replace p:=condT p d
   refine QGn d<|QGn d<|QGn d<|QGn d<|QGn d<|QGn d<|QPt d ?_
   exact WQ.nil ⟨(ob p),ag⟩
  replace p:=condF p d
  refine QGy d<|QFb<|QGy d ?_
  refine QB 0 (str b.fName)<|QGy d<|B p fun a1 a2 p=>WQ.call (v:=str a1) rfl (fun w H' hq S=>zB7 S.holds b.fName a2)<|QGy d<|QFb<|QGy d ?_
  refine QB 0 (str b.fName)<|QGy d<|QNb<|QPf d ?_
  exact WQ.nil ⟨(ob p),ag⟩
 intro us
 refine QM ?_
 refine WQ.grp 5 [18,19,20,21] 22 (boo (x||(decide ((b.fValues.length:Int)<1)))) ?_ ?_
 ·rcases boolE x with l | l
  ·refine QGn l<|QGn l<|QGn l<|QGn l<|QPt l ?_
   exact WQ.nil ⟨(orT l),ag⟩
  refine QGy l<|QFb<|QGy l ?_
  refine QB 0 k<|QGy l<|QNq c<|QGy l<|QLa<|QPf l ?_
  exact WQ.nil ⟨(orF l),ag⟩
 intro us
 refine QM ?_
 refine WQ.grp 5 [24,25,26,27] 28 (boo ((x||(decide ((b.fValues.length:Int)<1)))||(decide (16<(b.fValues.length:Int))))) ?_ ?_
 ·rcases boolE (x||(decide ((b.fValues.length:Int)<1))) with o | o
  ·refine QGn o<|QGn o<|QGn o<|QGn o<|QPt o ?_
   exact WQ.nil ⟨(orT o),ag⟩
  refine QGy o<|QFb<|QGy o ?_
  refine QB 0 k<|QGy o<|QNq c<|QGy o<|QLc<|QPf o ?_
  exact WQ.nil ⟨(orF o),ag⟩
 intro us
 refine WQ.nil ?_
 intro w3 H4 a4 S
 have c:=c.up a4
 rcases condE h with ⟨ah,h⟩ | ⟨ah,h⟩
 ·refine CT ah<|Ws<|Wg<|A<|We ?_
  exact WP.ret (Rb h S)
 refine CF ah<|Wk<|Ws<|Ws<|Wg<|A<|We<|B h fun ai a5 h=>WP.cut (fun f w=>match ai with | .inl _=>∃ (au:Hp),St t q w au [] | .inr _=>False) ?_ ?_
 ·refine Wb ?_
  refine WP.loopM (zB4 b) (fun s f w=>match s with | z=>∃ (ab:Hp),f 1=(ptr u 0)∧f 3=(int z)∧Sl ab k b.fValues∧St t q w ab [.box u 68 [(str b.fName),k]]) 0 ai a5 ?_ ?_
  ·exact ⟨H4,rfl,rfl,c,S⟩
  intro z f w hI br i aj
  obtain ⟨ab,ac,ak,c,S⟩:=hI
  refine Ws<|Ws<|Wg<|M' ak<|Fb' ac ?_
  refine Lo 0 S<|Nq c<|La<|We ?_
  rcases condE i with ⟨al,i⟩ | ⟨al,i⟩
  ·refine CT al<|Wk<|Ws<|Wb<|Ws<|Ws<|WP.quiet S kr kr<|QFb' ac ?_
   refine QB 0 (str b.fName)<|QFb' ac ?_
   refine QB 0 k<|QM' ak<|B i fun av a6 i=>WQ.idx (α:=Str) c rfl rfl el34 a6 ?_
   rintro bs _ a7 rfl
   refine QH (str av) a7<|B i fun a8 a9 i=>WQ.call (v:=boo a8) rfl (fun w H' hq S=>zKd S.holds b.fName av a9)<|QNo<|WQ.nil ?_
   intro bt ba bb S
   have c:=c.up bb
   rcases condE i with ⟨am,i⟩ | ⟨am,i⟩
   ·refine CT am<|Ws<|Wg<|A<|We ?_
    cases i
    obtain rfl:=aj
    exact WP.ret (Rb h S)
   refine CF am<|Wk<|Ws<|Wg<|A<|We<|B i fun an bc i=>WP.cut (fun f w=>match an with | .inl _=>∃ (ad:Hp),f 1=(ptr u 0)∧f 3=(int z)∧Sl ad k b.fValues∧St t q w ad [.box u 68 [(str b.fName),k]] | .inr _=>False) ?_ ?_
   ·refine Wb ?_
    refine WP.loopM (zBw b z) (fun s f w=>match s with | aw=>∃ (ae:Hp),f 1=(ptr u 0)∧f 3=(int z)∧f 4=(int aw)∧Sl ae k b.fValues∧St t q w ae [.box u 68 [(str b.fName),k]]) 0 an bc ?_ ?_
    ·exact ⟨ba,ac,ak,rfl,c,S⟩
    intro aw f w hI bu j ax
    obtain ⟨ae,aa,af,ao,c,S⟩:=hI
    refine Ws<|Ws<|Wg<|M' ao<|M' af<|La<|We ?_
    rcases condE j with ⟨ap,j⟩ | ⟨ap,j⟩
    ·refine CT ap<|Wk<|Ws<|Wb<|Ws<|WP.quiet S kr kr<|QFb' aa ?_
     refine QB 0 (str b.fName)<|QFb' aa ?_
     refine QB 0 k<|QM' af<|B j fun ay bd j=>WQ.idx (α:=Str) c rfl rfl el34 bd ?_
     rintro bv _ be rfl
     refine QH (str ay) be<|QFb' aa ?_
     refine QB 0 k<|QM' ao<|B j fun az bf j=>WQ.idx (α:=Str) c rfl rfl el34 bf ?_
     rintro bw _ bg rfl
     refine QH (str az) bg<|B j fun bh bi j=>WQ.call (v:=boo bh) rfl (fun w H' hq S=>zIg S.holds b.fName ay az bi)<|WQ.nil ?_
     intro bx bj bk S
     have c:=c.up bk
     rcases condE j with ⟨aq,j⟩ | ⟨aq,j⟩
     ·refine CT aq<|Ws<|Wg<|A<|We ?_
      cases j
      obtain rfl:=ax
      cases i
      obtain rfl:=aj
      exact WP.ret (Rb h S)
     refine CF aq<|Wk<|Wg<|M' ao<|Lg<|A<|We ?_
     cases j
     exact ⟨rfl,⟨bj,aa,af,rfl,c,S⟩⟩
    refine CF ap<|Wx ?_
    cases j
    obtain rfl:=ax
    exact ⟨ae,aa,af,c,S⟩
   intro f w hM
   rcases an with _ | e
   ·obtain ⟨ad,bn,bo,c,S⟩:=hM
    refine Wg<|M' bo<|Lg<|A<|We ?_
    cases i
    exact ⟨rfl,⟨ad,bn,rfl,c,S⟩⟩
   exact hM.elim
  refine CF al<|Wx ?_
  cases i
  obtain rfl:=aj
  exact ⟨ab,(S.drop _ (.cons _ .slnil))⟩
 intro f w hM
 rcases ai with _ | e
 ·obtain ⟨au,S⟩:=hM
  refine Ws<|Wg<|A<|We ?_
  exact WP.ret (Rb h S)
 exact hM.elim
theorem zKf {o:World} {k:Hp} (hw:Holds o k) (j:(List GAxis)) {l:Value} (b:Sl k l j) {r:Bool} (h:zGw j=some r) :
  Cb Tryz.prog 64 [l] o k r:=by
 refine CM 41 Tryz.func64 hw fun S=>?_
 refine Ws<|Wg<|A<|We<|Ws<|Ws<|Wg<|M<|Nq b<|La<|M ?_
 refine WL.grp 4 [9,10,11] 12 (boo ((decide ((j.length:Int)<1))||(decide (4<(j.length:Int))))) ?_ ?_
 ·rcases boolE (decide ((j.length:Int)<1)) with i | i
  ·refine Gn i<|Gn i<|Gn i<|Pt i ?_
   exact We ⟨(orT i),ag,rfl⟩
  refine Gy i<|M<|Gy i<|Nq b<|Gy i<|Lc<|Pf i ?_
  exact We ⟨(orF i),ag,rfl⟩
 intro us
 refine We ?_
 rcases condE h with ⟨z,h⟩ | ⟨z,h⟩
 ·refine CT z<|Ws<|Wg<|A<|We ?_
  exact WP.ret (Rb h S)
 refine CF z<|Wk<|Ws<|Ws<|Wg<|A<|We<|B h fun aa ap h=>WP.cut (fun f w=>match aa with | .inl _=>∃ (H8:Hp),St o k w H8 [] | .inr _=>False) ?_ ?_
 ·refine Wb ?_
  refine WP.loopM (zDh j) (fun s f w=>match s with | p=>∃ (q:Hp),f 0=l∧f 3=(int p)∧Sl q l j∧St o k w q []) 0 aa ap ?_ ?_
  ·exact ⟨k,rfl,rfl,b,S⟩
  intro p f w hI y9 c ab
  obtain ⟨q,h5,h7,b,S⟩:=hI
  refine Ws<|Ws<|Wg<|M' h7<|M' h5<|Nq b<|La<|We ?_
  rcases condE c with ⟨ae,c⟩ | ⟨ae,c⟩
  ·refine CT ae<|Wk<|Ws<|Wb<|Ws<|Ws<|Wg<|M' h5<|M' h7<|B c fun am aq c=>W.idx (α:=GAxis) b rfl rfl el22 aq ?_
   rintro bd _ ar ⟨au,rfl,av⟩
   refine WL.w (R.loadHN (vs:=[(str am.fName),au]) S rfl ar lay68 rfl rfl)<|B c fun be aw c=>W.call S rfl (zFz S.holds am av aw) ?_
   rintro bf bg ax ay S rfl
   have b:=b.up ay
   refine No<|We ?_
   rcases condE c with ⟨af,c⟩ | ⟨af,c⟩
   ·refine CT af<|Ws<|Wg<|A<|We ?_
    cases c
    obtain rfl:=ab
    exact WP.ret (Rb h S)
   refine CF af<|Wk<|Ws<|Wg<|A<|We<|B c fun ah az c=>WP.cut (fun f w=>match ah with | .inl _=>∃ (t:Hp),f 0=l∧f 3=(int p)∧Sl t l j∧St o k w t [] | .inr _=>False) ?_ ?_
   ·refine Wb ?_
    refine WP.loopM (zDV j p) (fun s f w=>match s with | an=>∃ (u:Hp),f 0=l∧f 3=(int p)∧f 4=(int an)∧Sl u l j∧St o k w u []) 0 ah az ?_ ?_
    ·exact ⟨ax,h5,h7,rfl,b,S⟩
    intro an f w hI bh d ao
    obtain ⟨u,v,x,ai,b,S⟩:=hI
    refine Ws<|Ws<|Wg<|M' ai<|M' x<|La<|We ?_
    rcases condE d with ⟨aj,d⟩ | ⟨aj,d⟩
    ·refine CT aj<|Wk<|Ws<|Wb<|Ws<|WP.quiet S kr kr<|QM' v<|QM' x<|B d fun a0 a1 d=>WQ.idx (α:=GAxis) b rfl rfl el22 a1 ?_
     rintro bi _ a2 ⟨bj,rfl,bk⟩
     refine QFc ?_
     have a3:=At.add a2 0 (by simp)
     refine QH (str a0.fName) a3<|QM' v<|QM' ai<|B d fun a4 a5 d=>WQ.idx (α:=GAxis) b rfl rfl el22 a5 ?_
     rintro bn _ a6 ⟨bo,rfl,bp⟩
     refine QFc ?_
     have a7:=At.add a6 0 (by simp)
     refine QH (str a4.fName) a7<|QNa<|WQ.nil ?_
     intro bq a8 a9 S
     have b:=b.up a9
     rcases condE d with ⟨ak,d⟩ | ⟨ak,d⟩
     ·refine CT ak<|Ws<|Wg<|A<|We ?_
      cases d
      obtain rfl:=ao
      cases c
      obtain rfl:=ab
      exact WP.ret (Rb h S)
     refine CF ak<|Wk<|Wg<|M' ai<|Lg<|A<|We ?_
     cases d
     exact ⟨rfl,⟨a8,v,x,rfl,b,S⟩⟩
    refine CF aj<|Wx ?_
    cases d
    obtain rfl:=ao
    exact ⟨u,v,x,b,S⟩
   intro f w hM
   rcases ah with _ | e
   ·obtain ⟨t,ba,bb,b,S⟩:=hM
    refine Wg<|M' bb<|Lg<|A<|We ?_
    cases c
    exact ⟨rfl,⟨t,ba,rfl,b,S⟩⟩
   exact hM.elim
  refine CF ae<|Wx ?_
  cases c
  obtain rfl:=ab
  exact ⟨q,S⟩
 intro f w hM
 rcases aa with _ | e
 ·obtain ⟨H8,S⟩:=hM
  refine Ws<|Wg<|A<|We ?_
  exact WP.ret (Rb h S)
 exact hM.elim
theorem zJQ {t:World} {j:Hp} (hw:Holds t j) (u:(List GField)) (l:Str) {x:Value} (c:Sl j x u) {r:(List Str)} (h:zHL u l=some r) :
  Con Tryz.prog 113 [x,(str l)] t j (fun H' v=>Sl H' v r):=by
 refine CM 29 Tryz.func113 hw fun S=>?_
 refine Ws<|Wg<|A<|We<|Ws<|Wg<|A<|We<|Ws<|Ws<|Wg<|A ?_
 refine We ?_
 have S:=S.addNil 9 1
 refine B h fun aa an h=>WP.cut (fun f w=>∃ (ab:Hp) (z:Value),f 5=z∧Sl ab z aa∧St t j w ab [.row z 9 1 aa.length]) ?_ ?_
 ·refine Wb ?_
  refine WP.loopM (zEs u l) (fun s f w=>match s with | (ac,ai)=>∃ (o:Hp) (k:Value),f 0=x∧f 1=(str l)∧f 5=k∧f 6=(int ai)∧Sl o x u∧Sl o k ac∧St t j w o [.row k 9 1 ac.length]) (([]:List Str),0) aa an ?_ ?_
  ·exact ⟨j,.slice none 0 0,rfl,rfl,rfl,rfl,c,Sl.nil,S⟩
  intro s f w hI a7 b ao
  obtain ⟨ac,ai⟩:=s
  obtain ⟨o,k,p,h3,h7,q,c,d,S⟩:=hI
  refine Ws<|Ws<|Wg<|M' q<|M' p<|Nq c<|La<|We ?_
  rcases condE b with ⟨af,b⟩ | ⟨af,b⟩
  ·refine CT af<|Wk<|Ws<|Wb<|Ws<|Wg<|M' p<|M' q<|B b fun ap aq b=>W.idx (α:=GField) c rfl rfl el26 aq ?_
   rintro a8 _ ar rfl
   refine Fc ?_
   have au:=At.add ar 0 (by simp)
   refine Lq S au<|M' h3<|B b fun a9 av b=>W.call S rfl (zBc S.holds ap.fName l av) ?_
   rintro ba bb aw aj S rfl
   have c:=c.up aj
   have d:=d.up aj
   refine We ?_
   rcases condE b with ⟨ah,b⟩ | ⟨ah,b⟩
   ·refine CT ah<|Wg<|M' h7<|M' p<|M' q<|B b fun ak ax b=>W.idx (α:=GField) c rfl rfl el26 ax ?_
    rintro bc _ ay rfl
    refine Fc ?_
    have az:=At.add ay 1 (by simp)
    refine Lq S az<|W.bslice (α:=Str) [(str ak.fValue)] ([ak.fValue]:List Str) S el34 rfl rfl rfl (by decide) (Go.Eng.encS ⟨rfl,rfl⟩ enc0) ?_
    intro bd be bf al a0 S
    have c:=c.up al
    have d:=d.up al
    refine B b fun bg a1 b=>W.app (α:=Str) (i:=1) S el34 rfl rfl rfl d a0 a1 ?_
    intro a2 bh a3 am a4 S
    have c:=c.up am
    have d:=d.up am
    refine A<|We<|Wg<|M' q<|Lg<|A<|We ?_
    cases b
    exact ⟨rfl,⟨a3,a2,p,h3,rfl,rfl,c,a4,(S.drop _ (.cons _ (.cons_cons _ .slnil)))⟩⟩
   refine CF ah<|Wk<|Wg<|M' q<|Lg<|A<|We ?_
   cases b
   exact ⟨rfl,⟨aw,k,p,h3,h7,rfl,c,d,S⟩⟩
  refine CF af<|Wx ?_
  cases b
  obtain rfl:=ao
  exact ⟨o,k,h7,d,S⟩
 rintro f w ⟨ab,z,a5,a6,S⟩
 refine Ws<|Wg<|M' a5<|A<|We ?_
 exact WP.ret (Rl h S a6)
theorem zL7 {f:World} {b:Hp} (hw:Holds f b) (c:(List GField)) (d:Str) {i:Value} (j:Sl b i c) {r:Bool} (h:zIW c d=some r) :
  Cb Tryz.prog 145 [i,(str d)] f b r:=by
 refine CM 10 Tryz.func145 hw fun S=>?_
 refine Ws<|Wg<|A<|We<|Ws<|Wg<|M<|M<|B h fun o k h=>W.call S rfl (zJQ S.holds c d j k) ?_
 rintro p q t u S l
 refine Nq l<|Lc<|A<|We ?_
 exact WP.ret (Rb h S)
theorem zKX {o:World} {p:Hp} (hw:Holds o p) (ac:Str) {r:(List Str)} (h:zGn ac=some r) :
  Con Tryz.prog 144 [(str ac)] o p (fun H' v=>Sl H' v r):=by
 refine CM 32 Tryz.func144 hw fun S=>?_
 refine Ws<|Wg<|A<|We<|Ws<|Wg<|A<|We<|Ws<|Wg<|M<|B h fun q an h=>W.call S rfl (zJM S.holds ac 44 an) ?_
 rintro v2 w3 H4 a6 S c
 refine A<|We<|Ws<|Ws<|Wg<|A<|We ?_
 have S:=S.addNil 9 1
 refine B h fun ad ap h=>WP.cut (fun f w=>∃ (ae:Hp) (t:Value),f 3=t∧Sl ae t ad∧St o p w ae [.row t 9 1 ad.length]) ?_ ?_
 ·refine Wb ?_
  refine WP.loopM (zBe q) (fun s f w=>match s with | (u,x)=>∃ (l:Hp) (k:Value),f 3=k∧f 4=v2∧f 5=(int x)∧Sl l k u∧Sl l v2 q∧St o p w l [.row k 9 1 u.length]) (([]:List Str),0) ad ap ?_ ?_
  ·exact ⟨H4,.slice none 0 0,rfl,rfl,rfl,Sl.nil,c,S⟩
  intro s f w hI a7 b aq
  obtain ⟨u,x⟩:=s
  obtain ⟨l,k,z,aa,ab,j,c,S⟩:=hI
  refine Ws<|Ws<|Wg<|M' ab<|M' aa<|Nq c<|La<|M ?_
  refine WL.grp 4 [14,15,16] 17 (boo ((decide (x<(q.length:Int)))&&(decide ((u.length:Int)<64)))) ?_ ?_
  ·rcases boolE (decide (x<(q.length:Int))) with d | d
   ·refine Gy d<|M' z<|Gy d<|Nq j<|Gy d<|La<|Pt d ?_
    exact We ⟨(andT d),ag,rfl⟩
   refine Gn d<|Gn d<|Gn d<|Pf d ?_
   exact We ⟨(andF d),ag,rfl⟩
  intro us
  refine We ?_
  rcases condE b with ⟨af,b⟩ | ⟨af,b⟩
  ·refine CT af<|Wk<|Ws<|Wb<|Ws<|Wg<|M' aa<|M' ab<|B b fun ar au b=>W.idx (α:=Str) c rfl rfl el34 au ?_
   rintro a8 _ av rfl
   refine Lq S av<|B b fun aj aw b=>W.call S rfl (zFP S.holds ar aw) ?_
   rintro a9 ba ax ak S rfl
   have j:=j.up ak
   have c:=c.up ak
   refine A<|We<|Ws<|Wg<|M<|Nb<|We ?_
   rcases condE b with ⟨ah,b⟩ | ⟨ah,b⟩
   ·refine CT ah<|Wg<|M' z<|M<|W.bslice (α:=Str) [(str aj)] ([aj]:List Str) S el34 rfl rfl rfl (by decide) (Go.Eng.encS ⟨rfl,rfl⟩ enc0) ?_
    intro bb bc bd al ay S
    have j:=j.up al
    have c:=c.up al
    refine B b fun be az b=>W.app (α:=Str) (i:=1) S el34 rfl rfl rfl j ay az ?_
    intro a0 bf a1 am a2 S
    have j:=j.up am
    have c:=c.up am
    refine A<|We<|Wg<|M' ab<|Lg<|A<|We ?_
    cases b
    exact ⟨rfl,⟨a1,a0,rfl,aa,rfl,a2,c,(S.drop _ (.cons _ (.cons_cons _ .slnil)))⟩⟩
   refine CF ah<|Wk<|Wg<|M' ab<|Lg<|A<|We ?_
   cases b
   exact ⟨rfl,⟨ax,k,z,aa,rfl,j,c,S⟩⟩
  refine CF af<|Wx ?_
  cases b
  obtain rfl:=aq
  exact ⟨l,k,z,j,S⟩
 rintro f w ⟨ae,t,a3,a4,S⟩
 refine Ws<|Wg<|M' a3<|A<|We ?_
 exact WP.ret (Rl h S a4)
theorem zJR {p:World} {l:Hp} (hw:Holds p l) (al:(List GField)) (am:Str) {a1:Value} (a8:Sl l a1 al) {r:(List Str)} (h:zGN al am=some r) :
  Con Tryz.prog 114 [a1,(str am)] p l (fun H' v=>Sl H' v r):=by
 refine CM 43 Tryz.func114 hw fun S=>?_
 refine Ws<|Wg<|A<|We<|Ws<|Wg<|A<|We<|Ws<|Wg<|M<|M<|B h fun r1 a9 h=>W.call S rfl (zJQ S.holds al am a8 a9) ?_
 rintro q w3 H4 b1 S b
 refine A<|We<|Ws<|Ws<|Wg<|A<|We ?_
 have S:=S.addNil 9 1
 refine B h fun an bb h=>WP.cut (fun f w=>∃ (ao:Hp) (ad:Value),f 5=ad∧Sl ao ad an∧St p l w ao [.row ad 9 1 an.length]) ?_ ?_
 ·refine Wb ?_
  refine WP.loopM (zEx r1) (fun s f w=>match s with | (ae,af)=>∃ (x:Hp) (t:Value),f 5=t∧f 6=q∧f 7=(int af)∧Sl x t ae∧Sl x q r1∧St p l w x [.row t 9 1 ae.length]) (([]:List Str),0) an bb ?_ ?_
  ·exact ⟨H4,.slice none 0 0,rfl,rfl,rfl,Sl.nil,b,S⟩
  intro s f w hI b2 c bc
  obtain ⟨ae,af⟩:=s
  obtain ⟨x,t,a2,ap,aq,ah,b,S⟩:=hI
  refine Ws<|Ws<|Wg<|M' aq<|M' ap<|Nq b<|La<|We ?_
  rcases condE c with ⟨ar,c⟩ | ⟨ar,c⟩
  ·refine CT ar<|Wk<|Ws<|Wb<|Ws<|Wg<|M' ap<|M' aq<|B c fun bd be c=>W.idx (α:=Str) b rfl rfl el34 be ?_
   rintro b3 _ bf rfl
   refine Lq S bf<|B c fun ai bg c=>W.call S rfl (zKX S.holds bd bg) ?_
   rintro a3 b4 bh a4 S j
   have ah:=ah.up a4
   have b:=b.up a4
   refine A<|We<|Ws<|Wg<|A<|We<|B c fun au bi c=>WP.cut (fun f w=>∃ (z:Hp) (aa:Value),f 5=aa∧f 6=q∧f 7=(int af)∧Sl z aa au∧Sl z q r1∧St p l w z [.row aa 9 1 au.length]) ?_ ?_
   ·refine Wb ?_
    refine WP.loopM (zCM ai) (fun s f w=>match s with | (aj,ak)=>∃ (u:Hp) (ab:Value),f 5=ab∧f 6=q∧f 7=(int af)∧f 8=a3∧f 9=(int ak)∧Sl u ab aj∧Sl u q r1∧Sl u a3 ai∧St p l w u [.row ab 9 1 aj.length]) (ae,0) au bi ?_ ?_
    ·exact ⟨bh,t,a2,ap,aq,rfl,rfl,ah,b,j,S⟩
    intro s f w hI b5 k bj
    obtain ⟨aj,ak⟩:=s
    obtain ⟨u,ab,av,a5,a6,aw,ax,o,b,j,S⟩:=hI
    refine Ws<|Ws<|Wg<|M' ax<|M' aw<|Nq j<|La<|M ?_
    refine WL.grp 4 [29,30,31] 32 (boo ((decide (ak<(ai.length:Int)))&&(decide ((aj.length:Int)<64)))) ?_ ?_
    ·rcases boolE (decide (ak<(ai.length:Int))) with d | d
     ·refine Gy d<|M' av<|Gy d<|Nq o<|Gy d<|La<|Pt d ?_
      exact We ⟨(andT d),ag,rfl⟩
     refine Gn d<|Gn d<|Gn d<|Pf d ?_
     exact We ⟨(andF d),ag,rfl⟩
    intro us
    refine We ?_
    rcases condE k with ⟨ay,k⟩ | ⟨ay,k⟩
    ·refine CT ay<|Wk<|Ws<|Wb<|Wg<|M' av<|M' aw<|M' ax<|B k fun a7 bk k=>W.idx (α:=Str) j rfl rfl el34 bk ?_
     rintro b6 _ bn rfl
     refine Lq S bn<|W.bslice (α:=Str) [(str a7)] ([a7]:List Str) S el34 rfl rfl rfl (by decide) (Go.Eng.encS ⟨rfl,rfl⟩ enc0) ?_
     intro b7 b8 b9 az bo S
     have o:=o.up az
     have b:=b.up az
     have j:=j.up az
     refine B k fun ca bp k=>W.app (α:=Str) (i:=1) S el34 rfl rfl rfl o bo bp ?_
     intro bq cb br a0 bs S
     have o:=o.up a0
     have b:=b.up a0
     have j:=j.up a0
     refine A<|We<|Wg<|M' ax<|Lg<|A<|We ?_
     cases k
     exact ⟨rfl,⟨br,bq,rfl,a5,a6,aw,rfl,bs,b,j,(S.drop _ (.cons _ (.cons_cons _ .slnil)))⟩⟩
    refine CF ay<|Wx ?_
    cases k
    obtain rfl:=bj
    exact ⟨u,ab,av,a5,a6,o,b,S⟩
   rintro f w ⟨z,aa,bt,bu,bv,bw,b,S⟩
   refine Wg<|M' bv<|Lg<|A<|We ?_
   cases c
   exact ⟨rfl,⟨z,aa,bt,bu,rfl,bw,b,S⟩⟩
  refine CF ar<|Wx ?_
  cases c
  obtain rfl:=bc
  exact ⟨x,t,a2,ah,S⟩
 rintro f w ⟨ao,ad,bx,bz,S⟩
 refine Ws<|Wg<|M' bx<|A<|We ?_
 exact WP.ret (Rl h S bz)
theorem zJq {x:World} {u:Hp} (hw:Holds x u) (l:Str) {r:(Int×Bool)} (h:zD3 l=some r) :
  Con Tryz.prog 188 [(str l)] x u (fun H' v=>v=(.tuple ⟨[(int r.1),(boo r.2)]⟩)):=by
 refine CM 65 Tryz.func188 hw fun S=>?_
 refine Ws<|Wg<|A<|A<|We<|Ws<|Ws<|Wg<|M<|Ns<|La<|M ?_
 refine WL.grp 4 [11,12,13] 14 (boo ((decide ((l.length:Int)<1))||(decide (5<(l.length:Int))))) ?_ ?_
 ·rcases boolE (decide ((l.length:Int)<1)) with i | i
  ·refine Gn i<|Gn i<|Gn i<|Pt i ?_
   exact We ⟨(orT i),ag,rfl⟩
  refine Gy i<|M<|Gy i<|Ns<|Gy i<|Lc<|Pf i ?_
  exact We ⟨(orF i),ag,rfl⟩
 intro us
 refine M<|B h fun aj o h=>WL.grp 9 [16,17,18,19,20,21,22,23] 24 (boo aj) ?_ ?_
 ·rcases boolE ((decide ((l.length:Int)<1))||(decide (5<(l.length:Int)))) with c | c
  ·replace o:=condT o c
   refine Gn c<|Gn c<|Gn c<|Gn c<|WL.gund rfl rfl<|WL.gund rfl rfl<|WL.gund rfl rfl<|Gn c<|Pt c ?_
   exact We ⟨(ob o),ag,rfl⟩
  replace o:=condF o c
  refine Gy c<|M<|Gy c<|B o fun c5 ax o=>Ja ax<|Gy c<|Mf c5 48<|Gy c<|M<|B o fun b9 p o=>WL.grp 4 [20,21,22] 23 (boo b9) ?_ ?_
  ·rcases boolE (c5 !=48) with j | j
   ·replace p:=condT p j
    refine Gy j<|M<|Gy j<|B p fun c8 a0 p=>Ja a0<|Gy j<|Mf c8 49<|Gy c<|Pt j ?_
    exact We ⟨(ob p),ag,rfl⟩
   replace p:=condF p j
   refine Gn j<|Gn j<|Gn j<|Gy c<|Pf j ?_
   exact We ⟨(ob p),ag,rfl⟩
  intro us
  refine Pf c ?_
  exact We ⟨(ob o),ag,rfl⟩
 intro us
 refine M<|B h fun a1 q h=>WL.grp 9 [26,27,28,29,30,31,32,33] 34 (boo a1) ?_ ?_
 ·rcases boolE aj with d | d
  ·replace q:=condT q d
   refine Gn d<|Gn d<|Gn d<|Gn d<|WL.gund rfl rfl<|WL.gund rfl rfl<|WL.gund rfl rfl<|Gn d<|Pt d ?_
   exact We ⟨(ob q),ag,rfl⟩
  replace q:=condF q d
  refine Gy d<|M<|Gy d<|Ns<|Gy d<|Lc<|Gy d<|M<|B q fun a2 t q=>WL.grp 4 [30,31,32] 33 (boo a2) ?_ ?_
  ·rcases boolE (decide (1<(l.length:Int))) with k | k
   ·replace t:=condT t k
    refine Gy k<|M<|Gy k<|B t fun a3 a4 t=>Ja a4<|Gy k<|Mf a3 46<|Gy d<|Pt k ?_
    exact We ⟨(ob t),ag,rfl⟩
   replace t:=condF t k
   refine Gn k<|Gn k<|Gn k<|Gy d<|Pf k ?_
   exact We ⟨(ob t),ag,rfl⟩
  intro us
  refine Pf d ?_
  exact We ⟨(ob q),ag,rfl⟩
 intro us
 refine We ?_
 rcases condE h with ⟨ab,h⟩ | ⟨ab,h⟩
 ·refine CT ab<|Ws<|Wg<|A<|A<|We ?_
  cases h
  refine WP.ret (Out.two rfl S rfl rfl ?_)
  exact rfl
 refine CF ab<|Wk<|Ws<|Wg<|M<|B h fun ac a5 h=>Ja a5<|Mh ac 48 ?_
 refine WL.w (R.i64of8 (a:=ac - 48) rfl Tryz.underlying5 Tryz.underlying3)<|Li<|A<|We<|Ws<|Wg<|A<|We<|Ws<|Ws ?_
 refine Wg<|A<|We<|B h fun ad a6 h=>WP.cut (fun f w=>match ad with | .inl al=>∃ (am:Hp),f 4=(int al)∧St x u w am [] | .inr _=>False) ?_ ?_
 ·refine Wb ?_
  refine WP.loopM (zBj l) (fun s f w=>match s with | (an,ao,ap)=>∃ (ae:Hp),f 0=(str l)∧f 4=(int an)∧f 5=(int ao)∧f 6=(int ap)∧St x u w ae []) (wr (((ac - 48).toNat:Int)*1000),100,2) ad a6 ?_ ?_
  ·exact ⟨u,rfl,rfl,rfl,rfl,S⟩
  intro s f w hI bd b aq
  obtain ⟨an,ao,ap⟩:=s
  obtain ⟨ae,z,ar,au,aa,S⟩:=hI
  refine Ws<|Ws<|Wg<|M' aa<|M' z<|Ns<|La<|We ?_
  rcases condE b with ⟨af,b⟩ | ⟨af,b⟩
  ·refine CT af<|Wk<|Ws<|Wb<|Ws<|Ws<|Wg<|M' z<|M' aa<|B b fun a7 a8 b=>Ja a8<|B b fun be a9 b=>W.call S rfl (zH5 S.holds a7 a9) ?_
   rintro bf bg ba bh S rfl
   refine No<|We ?_
   rcases condE b with ⟨ah,b⟩ | ⟨ah,b⟩
   ·refine CT ah<|Ws<|Wg<|A<|A<|We ?_
    cases b
    obtain rfl:=aq
    cases h
    refine WP.ret (Out.two rfl S rfl rfl ?_)
    exact rfl
   refine CF ah<|Wk<|Ws<|Wg<|M' ar<|M' z<|M' aa<|B b fun av bb b=>Ja bb<|Mh av 48 ?_
   refine WL.w (R.i64of8 (a:=av - 48) rfl Tryz.underlying5 Tryz.underlying3)<|M' au<|Li<|Lg<|A<|We<|Wg<|M' au<|B b fun bi bc b=>?_
   refine WL.w (R.quo' rfl rfl bc)<|A<|We<|Wg<|M' aa<|Lg<|A<|We ?_
   cases b
   exact ⟨rfl,⟨ba,z,rfl,rfl,rfl,S⟩⟩
  refine CF af<|Wx ?_
  cases b
  obtain rfl:=aq
  exact ⟨ae,ar,S⟩
 intro f w hM
 rcases ad with al | e
 ·obtain ⟨am,aw,S⟩:=hM
  refine Ws<|Ws<|Wg<|M' aw<|Lc<|We ?_
  rcases condE h with ⟨ai,h⟩ | ⟨ai,h⟩
  ·refine CT ai<|Ws<|Wg<|A<|A<|We ?_
   cases h
   refine WP.ret (Out.two rfl S rfl rfl ?_)
   exact rfl
  refine CF ai<|Wk<|Ws<|Wg<|M' aw<|A<|A<|We ?_
  cases h
  refine WP.ret (Out.two rfl S rfl rfl ?_)
  exact rfl
 exact hM.elim
theorem zKa {o:World} {p:Hp} (hw:Holds o p) (q:Str) {r:Str} (h:zFj q=some r) :
  Cs Tryz.prog 255 [(str q)] o p r:=by
 refine CM 35 Tryz.func255 hw fun S=>?_
 refine Ws<|Wg<|A<|We<|Ws<|Wg<|W.bslice (α:=UInt8) [(byt 34)] ([34]:List UInt8) S el128 rfl rfl rfl (by decide) (Go.Eng.encS ⟨rfl,rfl⟩ enc0) ?_
 intro u1 w2 H3 bo R5 S
 refine A<|We<|Ws<|Ws<|Wg<|A<|We<|B h fun aa av h=>WP.cut (fun f w=>∃ (ab:Hp) (x:Value),f 3=x∧Sl ab x aa∧St o p w ab [.row x 5 1 aa.length]) ?_ ?_
 ·refine Wb ?_
  refine WP.loopM (zDX q) (fun s f w=>match s with | (ac,ad)=>∃ (t:Hp) (l:Value),f 0=(str q)∧f 3=l∧f 4=(int ad)∧Sl t l ac∧St o p w t [.row l 5 1 ac.length]) (([34]:List UInt8),0) aa av ?_ ?_
  ·exact ⟨H3,u1,rfl,rfl,rfl,R5,S⟩
  intro s f w hI bp b aw
  obtain ⟨ac,ad⟩:=s
  obtain ⟨t,l,u,ae,v,j,S⟩:=hI
  refine Ws<|Ws<|Wg<|M' v<|M' u<|Ns<|La<|We ?_
  rcases condE b with ⟨af,b⟩ | ⟨af,b⟩
  ·refine CT af<|Wk<|Ws<|Wb<|Ws<|Ws<|Wg<|M' u<|M' v<|B b fun al ax b=>Ja ax<|Me al 34<|M<|B b fun ay d b=>WL.grp 5 [17,18,19,20] 21 (boo ay) ?_ ?_
   ·rcases boolE (al==34) with c | c
    ·replace d:=condT d c
     refine Gn c<|Gn c<|Gn c<|Gn c<|Pt c ?_
     exact We ⟨(ob d),ag,rfl⟩
    replace d:=condF d c
    refine Gy c<|M' u<|Gy c<|M' v<|Gy c<|B d fun az a0 d=>Ja a0<|Gy c<|Me az 92<|Pf c ?_
    exact We ⟨(ob d),ag,rfl⟩
   intro us
   refine We<|B b fun am k b=>WP.cut (fun f w=>∃ (ah:Hp) (z:Value),f 0=(str q)∧f 3=z∧f 4=(int ad)∧Sl ah z am∧St o p w ah [.row z 5 1 am.length]) ?_ ?_
   ·rcases condE k with ⟨ai,k⟩ | ⟨ai,k⟩
    ·refine CT ai<|Wg<|M' ae<|W.bslice (α:=UInt8) [(byt 92)] ([92]:List UInt8) S el128 rfl rfl rfl (by decide) (Go.Eng.encS ⟨rfl,rfl⟩ enc0) ?_
     intro bq br bs a1 a2 S
     have j:=j.up a1
     refine B k fun bt a3 k=>W.app (α:=UInt8) (i:=1) S el128 rfl rfl rfl j a2 a3 ?_
     intro a4 bu a5 a6 a7 S
     have j:=j.up a6
     refine A<|We ?_
     cases k
     exact ⟨a5,a4,u,rfl,v,a7,(S.drop _ (.cons _ (.cons_cons _ .slnil)))⟩
    refine CF ai<|Wk ?_
    cases k
    exact ⟨t,l,u,ae,v,j,S⟩
   rintro f w ⟨ah,z,an,a8,ao,aj,S⟩
   refine Wg<|M' a8<|M' an<|M' ao<|B b fun ap a9 b=>Ja a9<|W.bslice (α:=UInt8) [(byt ap)] ([ap]:List UInt8) S el128 rfl rfl rfl (by decide) (Go.Eng.encS ⟨rfl,rfl⟩ enc0) ?_
   intro bv bw bx ba bb S
   have aj:=aj.up ba
   refine B b fun bz bc b=>W.app (α:=UInt8) (i:=1) S el128 rfl rfl rfl aj bb bc ?_
   intro bd b0 be b1 bf S
   refine A<|We<|Wg<|M' ao<|Lg<|A<|We ?_
   cases b
   exact ⟨rfl,⟨be,bd,an,rfl,rfl,bf,(S.drop _ (.cons _ (.cons_cons _ .slnil)))⟩⟩
  refine CF af<|Wx ?_
  cases b
  obtain rfl:=aw
  exact ⟨t,l,ae,j,S⟩
 rintro f w ⟨ab,x,bg,ak,S⟩
 refine Ws<|Wg<|M' bg<|W.bslice (α:=UInt8) [(byt 34)] ([34]:List UInt8) S el128 rfl rfl rfl (by decide) (Go.Eng.encS ⟨rfl,rfl⟩ enc0) ?_
 intro b2 b3 b4 bh bi S
 have ak:=ak.up bh
 refine B h fun b5 bj h=>W.app (α:=UInt8) (i:=1) S el128 rfl rfl rfl ak bi bj ?_
 intro b6 b7 b8 b9 bk S
 refine WL.w (R.strL S bk rfl Tryz.underlying128 Tryz.underlying9 Tryz.underlying5)<|A<|We ?_
 exact WP.ret (Rs h S)
theorem zHI {k:World} {d:Hp} (hw:Holds k d) (u:Str) (l:(List GParam)) {j:Value} (c:Sl d j l) {r:Str} (h:zCm u l=some r) :
  Cs Tryz.prog 227 [(str u),j] k d r:=by
 refine CM 35 Tryz.func227 hw fun S=>?_
 refine Ws<|Wg<|A<|We<|Ws<|Ws<|Wg<|A<|We<|B h fun ac ai h=>WP.cut (fun f w=>∃ (H7:Hp),f 0=(str ac)∧St k d w H7 []) ?_ ?_
 ·refine Wb ?_
  refine WP.loopM (zBQ l) (fun s f w=>match s with | (v,x)=>∃ (o:Hp),f 0=(str v)∧f 1=j∧f 5=(int x)∧Sl o j l∧St k d w o []) (u,0) ac ai ?_ ?_
  ·exact ⟨d,rfl,rfl,rfl,c,S⟩
  intro s f w hI a6 b aj
  obtain ⟨v,x⟩:=s
  obtain ⟨o,z,p,q,c,S⟩:=hI
  refine Ws<|Ws<|Wg<|M' q<|M' p<|Nq c<|La<|We ?_
  rcases condE b with ⟨aa,b⟩ | ⟨aa,b⟩
  ·refine CT aa<|Wk<|Ws<|Wb<|Ws<|Wg<|M' p<|M' q<|B b fun ae ak b=>W.idx (α:=GParam) c rfl rfl el156 ak ?_
   rintro a7 _ al rfl
   refine Fc ?_
   have am:=At.add al 1 (by simp)
   refine Lq S am<|A<|We<|Ws<|Ws<|Wg<|M<|B b fun a8 an b=>W.call S rfl (zA4 S.holds ae.fValue an) ?_
   rintro a9 ba ao ap S rfl
   have c:=c.up ap
   refine No<|We<|B b fun aq i b=>WP.cut (fun f w=>∃ (t:Hp),f 0=(str v)∧f 1=j∧f 5=(int x)∧f 6=(str aq)∧Sl t j l∧St k d w t []) ?_ ?_
   ·rcases condE i with ⟨ab,i⟩ | ⟨ab,i⟩
    ·refine CT ab<|Wg<|M<|B i fun bb ar i=>W.call S rfl (zKa S.holds ae.fValue ar) ?_
     rintro bc bd au av S rfl
     have c:=c.up av
     refine A<|We ?_
     cases i
     exact ⟨au,z,p,q,rfl,c,S⟩
    refine CF ab<|Wk ?_
    cases i
    exact ⟨ao,z,p,q,rfl,c,S⟩
   rintro f w ⟨t,aw,af,ah,ax,c,S⟩
   refine Wg<|M' aw<|M' af<|M' ah<|B b fun be ay b=>W.idx (α:=GParam) c rfl rfl el156 ay ?_
   rintro bf _ az rfl
   refine Fc ?_
   have a0:=At.add az 0 (by simp)
   refine Lq S a0<|B b fun bg a1 b=>Je a1<|B b fun bh a2 b=>Je a2<|M' ax<|B b fun bi a3 b=>Je a3<|B b fun bj a4 b=>Je a4<|A<|We<|Wg<|M' ah<|Lg<|A<|We ?_
   cases b
   exact ⟨rfl,⟨t,rfl,af,rfl,c,S⟩⟩
  refine CF aa<|Wx ?_
  cases b
  obtain rfl:=aj
  exact ⟨o,z,S⟩
 rintro f w ⟨H7,h9,S⟩
 refine Ws<|Wg<|M' h9<|A<|We ?_
 exact WP.ret (Rs h S)
theorem zIG {f:World} {c:Hp} (hw:Holds f c) (b:GMediaType) {d:Value} (i:Sl c d b.fParams) {r:Str} (h:zCa b=some r) :
  Cs Tryz.prog 190 [(agg [(str b.fType),(str b.fSub),d])] f c r:=by
 refine CM 12 Tryz.func190 hw fun S=>?_
 refine Ws<|Wg ?_
 refine W.box [(str b.fType),(str b.fSub),d] S rfl rfl ?_
 intro p q S
 refine A<|We<|Ws<|Wg<|Fb ?_
 refine Lo 0 S<|B h fun t j h=>Je j<|Fb ?_
 refine Lo 0 S<|B h fun k l h=>Je l<|Fb ?_
 refine Lo 0 S<|B h fun u o h=>W.call S rfl (zHI S.holds k b.fParams i o) ?_
 rintro v x z aa S rfl
 refine A<|We ?_
 exact WP.ret (Rs h S)
theorem zH4 {i:World} {d:Hp} (hw:Holds i d) (f:Str) {r:Bool} (h:zEa f=some r) :
  Cb Tryz.prog 191 [(str f)] i d r:=by
 refine CM 9 Tryz.func191 hw fun S=>?_
 refine Ws<|Wg<|A<|We<|Ws<|Wg<|M<|Na<|M<|B h fun j c h=>WL.grpw 3 [6,7] 8 (boo j) (fun w=>∃ H':Hp,d.le H'∧St i d w H' []) ?_ ?_
 ·rcases boolE (f==[42]) with b | b
  ·replace c:=condT c b
   refine Gn b<|Gn b<|Pt b ?_
   exact We ⟨(ob c),ag,⟨d,lr,S⟩⟩
  replace c:=condF c b
  refine Gy b<|M<|Gy b<|B c fun p k c=>W.call S rfl (zHO S.holds f k) ?_
  rintro q t l o S rfl
  refine Pf b ?_
  exact We ⟨(ob c),ag,⟨l,o,S⟩⟩
 intro us u ⟨v,x,S⟩
 refine A<|We ?_
 exact WP.ret (Rb h S)
end Go.Proofs
