/- A part. -/
import Derived.Test.YtipgfplekgdoiaaGreatDoorEng38
import Derived.Test.YtipgfplekgdoiaaGreatDoorEng36
import Derived.Test.YtipgfplekgdoiaaGreatDoorGenK6
namespace Go.Proofs
set_option maxHeartbeats 4000000
set_option maxRecDepth 10000
open Go.Eng Go.Eng.Pure
set_option linter.unusedVariables false
theorem zA1 {k:World} {d:Hp} (hw:Holds k d) (l:(List Str)) (o:(List Str)) {p:Value} {q:Value} (c:Sl d p l) (i:Sl d q o) {r:Bool} (h:zAs l o=some r) :
  Cb Tryz.prog 53 [p,q] k d r:=by
 refine CM 26 Tryz.func53 hw fun S=>?_
 refine Ws<|Wg<|A<|We<|Ws<|Ws<|Wg<|M<|Nq c<|M<|Nq i<|Lf ?_
 refine We ?_
 rcases condE h with ⟨u,h⟩ | ⟨u,h⟩
 ·refine CT u<|Ws<|Wg<|A<|We ?_
  exact WP.ret (Rb h S)
 refine CF u<|Wk<|Ws<|Ws<|Wg<|A<|We<|B h fun v af h=>WP.cut (fun f w=>match v with | .inl _=>∃ (H7:Hp),St k d w H7 [] | .inr _=>False) ?_ ?_
 ·refine Wb ?_
  refine WP.loopM (zBM l o) (fun s f w=>match s with | ac=>∃ (j:Hp),f 0=p∧f 1=q∧f 5=(int ac)∧Sl j p l∧Sl j q o∧St k d w j []) 0 v af ?_ ?_
  ·exact ⟨d,rfl,rfl,rfl,c,i,S⟩
  intro ac f w hI y8 b ad
  obtain ⟨j,x,h4,t,c,i,S⟩:=hI
  refine Ws<|Ws<|Wg<|M' t<|M' x<|Nq c<|La<|We ?_
  rcases condE b with ⟨z,b⟩ | ⟨z,b⟩
  ·refine CT z<|Wk<|Ws<|Wb<|Ws<|WP.quiet S kr kr<|QM' x<|QM' t<|B b fun ah ai b=>WQ.idx (α:=Str) c rfl rfl el34 ai ?_
   rintro aq _ aj rfl
   refine QH (str ah) aj<|QM' h4<|QM' t<|B b fun ak al b=>WQ.idx (α:=Str) i rfl rfl el34 al ?_
   rintro ar _ am rfl
   refine QH (str ak) am<|QNb<|WQ.nil ?_
   intro au an ao S
   have ⟨c,i⟩:=U2 ao c i
   rcases condE b with ⟨aa,b⟩ | ⟨aa,b⟩
   ·refine CT aa<|Ws<|Wg<|A<|We ?_
    obtain rfl:=oi b
    obtain rfl:=ad
    exact WP.ret (Rb h S)
   refine CF aa<|Wk<|Wg<|M' t<|Lg<|A<|We ?_
   obtain rfl:=oi b
   exact ⟨rfl,⟨an,x,h4,rfl,c,i,S⟩⟩
  refine CF z<|Wx ?_
  obtain rfl:=oi b
  obtain rfl:=ad
  exact ⟨j,S⟩
 intro f w hM
 rcases v with _ | e
 ·obtain ⟨H7,S⟩:=hM
  refine Ws<|Wg<|A<|We ?_
  exact WP.ret (Rb h S)
 exact hM.elim
theorem zJI {p:World} {k:Hp} (hw:Holds p k) (q:(List GAxis)) (t:(List GAxis)) {u:Value} {x:Value} (i:Sl k u q) (j:Sl k x t) {r:Bool} (h:zGF q t=some r) :
  Cb Tryz.prog 33 [u,x] p k r:=by
 refine CM 42 Tryz.func33 hw fun S=>?_
 refine Ws<|Wg<|A<|We<|Ws<|Ws<|Wg<|M<|Nq i<|M<|Nq j<|Lf ?_
 refine We ?_
 rcases condE h with ⟨aa,h⟩ | ⟨aa,h⟩
 ·refine CT aa<|Ws<|Wg<|A<|We ?_
  exact WP.ret (Rb h S)
 refine CF aa<|Wk<|Ws<|Ws<|Wg<|A<|We<|B h fun ab al h=>WP.cut (fun f w=>match ab with | .inl _=>∃ (H7:Hp),St p k w H7 [] | .inr _=>False) ?_ ?_
 ·refine Wb ?_
  refine WP.loopM (zEC q t) (fun s f w=>match s with | ah=>∃ (o:Hp),f 0=u∧f 1=x∧f 5=(int ah)∧Sl o u q∧Sl o x t∧St p k w o []) 0 ab al ?_ ?_
  ·exact ⟨k,rfl,rfl,rfl,i,j,S⟩
  intro ah f w hI y8 c ai
  obtain ⟨o,z,h4,l,i,j,S⟩:=hI
  refine Ws<|Ws<|Wg<|M' l<|M' z<|Nq i<|La<|We ?_
  rcases condE c with ⟨ad,c⟩ | ⟨ad,c⟩
  ·refine CT ad<|Wk<|Ws<|Wb<|Ws<|WP.quiet S kr kr<|QM' z<|QM' l<|B c fun aj am c=>WQ.idx (α:=GAxis) i rfl rfl el22 am ?_
   rintro bc _ an ⟨bd,rfl,be⟩
   refine QFc ?_
   have ao:=At.add an 0 (by simp)
   refine QH (str aj.fName) ao<|QM' h4<|QM' l<|B c fun ak ap c=>WQ.idx (α:=GAxis) j rfl rfl el22 ap ?_
   rintro bf _ aq ⟨bg,rfl,bh⟩
   refine QFc ?_
   have ar:=At.add aq 0 (by simp)
   refine QH (str ak.fName) ar<|QNb<|QM<|B c fun au d c=>WQ.grp 13 [29,30,31,32,33,34,35,36,37,38,39,40] 41 (boo au) ?_ ?_
   ·rcases boolE (aj.fName !=ak.fName) with b | b
    ·replace d:=condT d b
     refine QGn b<|QGn b<|QGn b<|QGn b<|QGn b<|QGn b<|QGn b<|QGn b<|QGn b<|QGn b<|QGn b<|QGn b ?_
     refine QPt b ?_
     exact WQ.nil ⟨(ob d),ag⟩
    replace d:=condF d b
    refine QGy b<|QM' z<|QGy b<|QM' l<|QGy b<|B d fun av aw d=>WQ.idx (α:=GAxis) i rfl rfl el22 aw ?_
    rintro bi _ ax ⟨ay,rfl,az⟩
    refine QGy b<|QFc ?_
    have a0:=At.add ax 1 (by simp)
    refine QGy b ?_
    refine QH ay a0<|QGy b<|QM' h4<|QGy b<|QM' l<|QGy b<|B d fun a1 a2 d=>WQ.idx (α:=GAxis) j rfl rfl el22 a2 ?_
    rintro bj _ a3 ⟨a4,rfl,a5⟩
    refine QGy b<|QFc ?_
    have a6:=At.add a3 1 (by simp)
    refine QGy b ?_
    refine QH a4 a6<|QGy b<|B d fun a7 a8 d=>WQ.call (v:=boo a7) rfl (fun w H' hq S=>zA1 S.holds av.fValues a1.fValues (az.up hq) (a5.up hq) a8)<|QGy b<|QNo<|QPf b ?_
    exact WQ.nil ⟨(ob d),ag⟩
   intro us
   refine WQ.nil ?_
   intro bk a9 ba S
   have ⟨i,j⟩:=U2 ba i j
   rcases condE c with ⟨ae,c⟩ | ⟨ae,c⟩
   ·refine CT ae<|Ws<|Wg<|A<|We ?_
    obtain rfl:=oi c
    obtain rfl:=ai
    exact WP.ret (Rb h S)
   refine CF ae<|Wk<|Wg<|M' l<|Lg<|A<|We ?_
   obtain rfl:=oi c
   exact ⟨rfl,⟨a9,z,h4,rfl,i,j,S⟩⟩
  refine CF ad<|Wx ?_
  obtain rfl:=oi c
  obtain rfl:=ai
  exact ⟨o,S⟩
 intro f w hM
 rcases ab with _ | e
 ·obtain ⟨H7,S⟩:=hM
  refine Ws<|Wg<|A<|We ?_
  exact WP.ret (Rb h S)
 exact hM.elim
theorem zH8 {k:World} {d:Hp} (hw:Holds k d) (l:(List (List Str))) (o:(List (List Str))) {p:Value} {q:Value} (c:Sl d p l) (i:Sl d q o) {r:Bool} (h:zEF l o=some r) :
  Cb Tryz.prog 79 [p,q] k d r:=by
 refine CM 27 Tryz.func79 hw fun S=>?_
 refine Ws<|Wg<|A<|We<|Ws<|Ws<|Wg<|M<|Nq c<|M<|Nq i<|Lf ?_
 refine We ?_
 rcases condE h with ⟨u,h⟩ | ⟨u,h⟩
 ·refine CT u<|Ws<|Wg<|A<|We ?_
  exact WP.ret (Rb h S)
 refine CF u<|Wk<|Ws<|Ws<|Wg<|A<|We<|B h fun x ah h=>WP.cut (fun f w=>match x with | .inl _=>∃ (H7:Hp),St k d w H7 [] | .inr _=>False) ?_ ?_
 ·refine Wb ?_
  refine WP.loopM (zCq l o) (fun s f w=>match s with | ad=>∃ (j:Hp),f 0=p∧f 1=q∧f 5=(int ad)∧Sl j p l∧Sl j q o∧St k d w j []) 0 x ah ?_ ?_
  ·exact ⟨d,rfl,rfl,rfl,c,i,S⟩
  intro ad f w hI y8 b ae
  obtain ⟨j,z,h4,t,c,i,S⟩:=hI
  refine Ws<|Ws<|Wg<|M' t<|M' z<|Nq c<|La<|We ?_
  rcases condE b with ⟨aa,b⟩ | ⟨aa,b⟩
  ·refine CT aa<|Wk<|Ws<|Wb<|Ws<|WP.quiet S kr kr<|QM' z<|QM' t<|B b fun ai aj b=>WQ.idx (α:=(List Str)) c rfl rfl el33 aj ?_
   rintro az _ ak ⟨al,rfl,am⟩
   refine QH al ak<|QM' h4<|QM' t<|B b fun an ao b=>WQ.idx (α:=(List Str)) i rfl rfl el33 ao ?_
   rintro a0 _ ap ⟨aq,rfl,ar⟩
   refine QH aq ap<|B b fun au av b=>WQ.call (v:=boo au) rfl (fun w H' hq S=>zA1 S.holds ai an (am.up hq) (ar.up hq) av)<|QNo<|WQ.nil ?_
   intro a1 aw ax S
   have ⟨c,i⟩:=U2 ax c i
   rcases condE b with ⟨ab,b⟩ | ⟨ab,b⟩
   ·refine CT ab<|Ws<|Wg<|A<|We ?_
    obtain rfl:=oi b
    obtain rfl:=ae
    exact WP.ret (Rb h S)
   refine CF ab<|Wk<|Wg<|M' t<|Lg<|A<|We ?_
   obtain rfl:=oi b
   exact ⟨rfl,⟨aw,z,h4,rfl,c,i,S⟩⟩
  refine CF aa<|Wx ?_
  obtain rfl:=oi b
  obtain rfl:=ae
  exact ⟨j,S⟩
 intro f w hM
 rcases x with _ | e
 ·obtain ⟨H7,S⟩:=hM
  refine Ws<|Wg<|A<|We ?_
  exact WP.ret (Rb h S)
 exact hM.elim
theorem zHG {k:World} {d:Hp} (hw:Holds k d) (l:(List GField)) (o:(List GField)) {p:Value} {q:Value} (c:Sl d p l) (i:Sl d q o) {r:Bool} (h:zDE l o=some r) :
  Cb Tryz.prog 80 [p,q] k d r:=by
 refine CM 26 Tryz.func80 hw fun S=>?_
 refine Ws<|Wg<|A<|We<|Ws<|Ws<|Wg<|M<|Nq c<|M<|Nq i<|Lf ?_
 refine We ?_
 rcases condE h with ⟨x,h⟩ | ⟨x,h⟩
 ·refine CT x<|Ws<|Wg<|A<|We ?_
  exact WP.ret (Rb h S)
 refine CF x<|Wk<|Ws<|Ws<|Wg<|A<|We<|B h fun z ai h=>WP.cut (fun f w=>match z with | .inl _=>∃ (H7:Hp),St k d w H7 [] | .inr _=>False) ?_ ?_
 ·refine Wb ?_
  refine WP.loopM (zB6 l o) (fun s f w=>match s with | ae=>∃ (j:Hp),f 0=p∧f 1=q∧f 5=(int ae)∧Sl j p l∧Sl j q o∧St k d w j []) 0 z ai ?_ ?_
  ·exact ⟨d,rfl,rfl,rfl,c,i,S⟩
  intro ae f w hI y8 b af
  obtain ⟨j,h3,h4,t,c,i,S⟩:=hI
  refine Ws<|Ws<|Wg<|M' t<|M' h3<|Nq c<|La<|We ?_
  rcases condE b with ⟨ab,b⟩ | ⟨ab,b⟩
  ·refine CT ab<|Wk<|Ws<|Wb<|Ws<|WP.quiet S kr kr<|QM' h3<|QM' t<|B b fun u aj b=>WQ.idx (α:=GField) c rfl rfl el26 aj ?_
   rintro aq _ ak rfl
   refine WQ.val (fun w hw=>by obtain ⟨_,hq,S⟩:=hw; exact (R.loadHN (vs:=[(str u.fName),(str u.fValue)]) S rfl (At.mono ak hq (by simp)) lay64 rfl rfl))<|QM' h4<|QM' t<|B b fun v al b=>WQ.idx (α:=GField) i rfl rfl el26 al ?_
   rintro ar _ am rfl
   refine WQ.val (fun w hw=>by obtain ⟨_,hq,S⟩:=hw; exact (R.loadHN (vs:=[(str v.fName),(str v.fValue)]) S rfl (At.mono am hq (by simp)) lay64 rfl rfl)) ?_
   refine WQ.val (fun _ _=>(R.neqA (!((u.fName==v.fName)&&((u.fValue==v.fValue)&&true))) rfl rfl ps64 fk64 rfl rfl rfl))<|WQ.nil ?_
   intro au an ao S
   have ⟨c,i⟩:=U2 ao c i
   rcases condE b with ⟨ac,b⟩ | ⟨ac,b⟩
   ·refine CT ac<|Ws<|Wg<|A<|We ?_
    obtain rfl:=oi b
    obtain rfl:=af
    exact WP.ret (Rb h S)
   refine CF ac<|Wk<|Wg<|M' t<|Lg<|A<|We ?_
   obtain rfl:=oi b
   exact ⟨rfl,⟨an,h3,h4,rfl,c,i,S⟩⟩
  refine CF ab<|Wx ?_
  obtain rfl:=oi b
  obtain rfl:=af
  exact ⟨j,S⟩
 intro f w hM
 rcases z with _ | e
 ·obtain ⟨H7,S⟩:=hM
  refine Ws<|Wg<|A<|We ?_
  exact WP.ret (Rb h S)
 exact hM.elim
theorem zJR {w0:World} {p:Hp} (hw:Holds w0 p) (b:GEntry) (c:GEntry) {ac:Value} {ad:Value} {ae:Value} {af:Value} {ah:Value} {ai:Value} {aj:Value} {ak:Value} (az:Sl p ac b.fKeys) (an:Sl p ad b.fVary) (z:Sl p ae b.fSnapshot) (q:Sl p af b.fFields) (a0:Sl p ah c.fKeys) (ao:Sl p ai c.fVary) (aa:Sl p aj c.fSnapshot) (t:Sl p ak c.fFields) {r:Bool} (h:zGC b c=some r) :
  Cb Tryz.prog 43 [(agg [ac,ad,ae,(str b.fReason),af,(str b.fBody),(int b.fRequested),(int b.fReceived)]),(agg [ah,ai,aj,(str c.fReason),ak,(str c.fBody),(int c.fRequested),(int c.fReceived)])] w0 p r:=by
 refine CM 59 Tryz.func43 hw fun S=>?_
 refine Ws<|Wg ?_
 refine W.box [ac,ad,ae,(str b.fReason),af,(str b.fBody),(int b.fRequested),(int b.fReceived)] S rfl rfl ?_
 intro b1 w2 S
 refine W.box [ah,ai,aj,(str c.fReason),ak,(str c.fBody),(int c.fRequested),(int c.fReceived)] S rfl rfl ?_
 intro b3 w4 S
 refine A<|We<|Ws<|Wg<|Fb ?_
 refine Lo 1 S<|Fb ?_
 refine Lo 0 S<|B h fun r5 a2 h=>W.call S rfl (zH8 S.holds b.fKeys c.fKeys az a0 a2) ?_
 rintro v6 w7 H8 a3 S rfl
 have ⟨an,z,q,ao,aa,t⟩:=U6 a3 an z q ao aa t
 refine M<|B h fun au u h=>WL.grpw 6 [11,12,13,14,15] 16 (boo au) (fun w=>∃ H':Hp,H8.le H'∧St w0 p w H' [.box b3 36 [ah,ai,aj,(str c.fReason),ak,(str c.fBody),(int c.fRequested),(int c.fReceived)],.box b1 36 [ac,ad,ae,(str b.fReason),af,(str b.fBody),(int b.fRequested),(int b.fReceived)]]) ?_ ?_
 ·rcases boolE r5 with d | d
  ·replace u:=condT u d
   refine Gy d<|Fb<|Gy d ?_
   refine Lo 1 S<|Gy d<|Fb<|Gy d ?_
   refine Lo 0 S<|Gy d<|B u fun bh a4 u=>W.call S rfl (zA1 S.holds b.fVary c.fVary an ao a4) ?_
   rintro bi bj a5 av S rfl
   have ⟨z,q,aa,t⟩:=U4 av z q aa t
   refine Pt d ?_
   exact We ⟨(ob u),ag,⟨a5,av,S⟩⟩
  replace u:=condF u d
  refine Gn d<|Gn d<|Gn d<|Gn d<|Gn d<|Pf d ?_
  exact We ⟨(ob u),ag,⟨H8,lr,S⟩⟩
 intro us bk ⟨aw,a6,S⟩
 have ⟨z,q,aa,t⟩:=U4 a6 z q aa t
 refine M<|B h fun am v h=>WL.grpw 6 [18,19,20,21,22] 23 (boo am) (fun w=>∃ H':Hp,aw.le H'∧St w0 p w H' [.box b3 36 [ah,ai,aj,(str c.fReason),ak,(str c.fBody),(int c.fRequested),(int c.fReceived)],.box b1 36 [ac,ad,ae,(str b.fReason),af,(str b.fBody),(int b.fRequested),(int b.fReceived)]]) ?_ ?_
 ·rcases boolE au with f | f
  ·replace v:=condT v f
   refine Gy f<|Fb<|Gy f ?_
   refine Lo 1 S<|Gy f<|Fb<|Gy f ?_
   refine Lo 0 S<|Gy f<|B v fun bn a7 v=>W.call S rfl (zA1 S.holds b.fSnapshot c.fSnapshot z aa a7) ?_
   rintro bo bp a8 ax S rfl
   have ⟨q,t⟩:=U2 ax q t
   refine Pt f ?_
   exact We ⟨(ob v),ag,⟨a8,ax,S⟩⟩
  replace v:=condF v f
  refine Gn f<|Gn f<|Gn f<|Gn f<|Gn f<|Pf f ?_
  exact We ⟨(ob v),ag,⟨aw,lr,S⟩⟩
 intro us bq ⟨ay,a9,S⟩
 have ⟨q,t⟩:=U2 a9 q t
 refine M ?_
 refine WL.grp 6 [25,26,27,28,29] 30 (boo (am&&(b.fReason==c.fReason))) ?_ ?_
 ·rcases boolE am with i | i
  ·refine Gy i<|Fb<|Gy i ?_
   refine Lo 1 S<|Gy i<|Fb<|Gy i ?_
   refine Lo 0 S<|Gy i<|Na<|Pt i ?_
   exact We ⟨(andT i),ag,rfl⟩
  refine Gn i<|Gn i<|Gn i<|Gn i<|Gn i<|Pf i ?_
  exact We ⟨(andF i),ag,rfl⟩
 intro us
 refine M<|B h fun ab x h=>WL.grpw 6 [32,33,34,35,36] 37 (boo ab) (fun w=>∃ H':Hp,ay.le H'∧St w0 p w H' [.box b3 36 [ah,ai,aj,(str c.fReason),ak,(str c.fBody),(int c.fRequested),(int c.fReceived)],.box b1 36 [ac,ad,ae,(str b.fReason),af,(str b.fBody),(int b.fRequested),(int b.fReceived)]]) ?_ ?_
 ·rcases boolE (am&&(b.fReason==c.fReason)) with j | j
  ·replace x:=condT x j
   refine Gy j<|Fb<|Gy j ?_
   refine Lo 1 S<|Gy j<|Fb<|Gy j ?_
   refine Lo 0 S<|Gy j<|B x fun br ba x=>W.call S rfl (zHG S.holds b.fFields c.fFields q t ba) ?_
   rintro bs bt bb bc S rfl
   refine Pt j ?_
   exact We ⟨(ob x),ag,⟨bb,bc,S⟩⟩
  replace x:=condF x j
  refine Gn j<|Gn j<|Gn j<|Gn j<|Gn j<|Pf j ?_
  exact We ⟨(ob x),ag,⟨ay,lr,S⟩⟩
 intro us bu ⟨bv,bw,S⟩
 refine M ?_
 refine WL.grp 6 [39,40,41,42,43] 44 (boo (ab&&(b.fBody==c.fBody))) ?_ ?_
 ·rcases boolE ab with k | k
  ·refine Gy k<|Fb<|Gy k ?_
   refine Lo 1 S<|Gy k<|Fb<|Gy k ?_
   refine Lo 0 S<|Gy k<|Na<|Pt k ?_
   exact We ⟨(andT k),ag,rfl⟩
  refine Gn k<|Gn k<|Gn k<|Gn k<|Gn k<|Pf k ?_
  exact We ⟨(andF k),ag,rfl⟩
 intro us
 refine M ?_
 refine WL.grp 6 [46,47,48,49,50] 51 (boo ((ab&&(b.fBody==c.fBody))&&(b.fRequested==c.fRequested))) ?_ ?_
 ·rcases boolE (ab&&(b.fBody==c.fBody)) with l | l
  ·refine Gy l<|Fb<|Gy l ?_
   refine Lo 1 S<|Gy l<|Fb<|Gy l ?_
   refine Lo 0 S<|Gy l<|Le<|Pt l ?_
   exact We ⟨(andT l),ag,rfl⟩
  refine Gn l<|Gn l<|Gn l<|Gn l<|Gn l<|Pf l ?_
  exact We ⟨(andF l),ag,rfl⟩
 intro us
 refine M ?_
 refine WL.grp 6 [53,54,55,56,57] 58 (boo (((ab&&(b.fBody==c.fBody))&&(b.fRequested==c.fRequested))&&(b.fReceived==c.fReceived))) ?_ ?_
 ·rcases boolE ((ab&&(b.fBody==c.fBody))&&(b.fRequested==c.fRequested)) with o | o
  ·refine Gy o<|Fb<|Gy o ?_
   refine Lo 1 S<|Gy o<|Fb<|Gy o ?_
   refine Lo 0 S<|Gy o<|Le<|Pt o ?_
   exact We ⟨(andT o),ag,rfl⟩
  refine Gn o<|Gn o<|Gn o<|Gn o<|Gn o<|Pf o ?_
  exact We ⟨(andF o),ag,rfl⟩
 intro us
 refine A<|We ?_
 exact WP.ret (Rb h S)
theorem zCB {w0:World} {j:Hp} (hw:Holds w0 j) (k:GTable) (l:GTable) {x:Value} {t:Value} {z:Value} {u:Value} (o:Sl j x k.fAxes) (d:Sl j t k.fEntries) (p:Sl j z l.fAxes) (i:Sl j u l.fEntries) {r:Bool} (h:zDF k l=some r) :
  Cb Tryz.prog 16 [(agg [x,t]),(agg [z,u])] w0 j r:=by
 refine CM 40 Tryz.func16 hw fun S=>?_
 refine Ws<|Wg ?_
 refine W.box [x,t] S rfl rfl ?_
 intro b1 w2 S
 refine W.box [z,u] S rfl rfl ?_
 intro b3 w4 S
 refine A<|We<|Ws<|Ws<|Wg<|Fb ?_
 refine Lo 1 S<|Fb ?_
 refine Lo 0 S<|B h fun r5 ar h=>W.call S rfl (zJI S.holds k.fAxes l.fAxes o p ar) ?_
 rintro v6 w7 H8 av S rfl
 have ⟨o,d,p,i⟩:=U4 av o d p i
 refine No<|M ?_
 refine WL.grp 8 [13,14,15,16,17,18,19] 20 (boo ((!r5)||((k.fEntries.length:Int) !=(l.fEntries.length:Int)))) ?_ ?_
 ·rcases boolE (!r5) with b | b
  ·refine Gn b<|Gn b<|Gn b<|Gn b<|Gn b<|Gn b<|Gn b<|Pt b ?_
   exact We ⟨(orT b),ag,rfl⟩
  refine Gy b<|Fb<|Gy b ?_
  refine Lo 1 S<|Gy b<|Nq d<|Gy b<|Fb<|Gy b ?_
  refine Lo 0 S<|Gy b<|Nq i ?_
  refine Gy b<|Lf<|Pf b ?_
  exact We ⟨(orF b),ag,rfl⟩
 intro us
 refine We ?_
 rcases condE h with ⟨ae,h⟩ | ⟨ae,h⟩
 ·refine CT ae<|Ws<|Wg<|A<|We ?_
  exact WP.ret (Rb h S)
 refine CF ae<|Wk<|Ws<|Ws<|Wg<|A<|We<|B h fun af aw h=>WP.cut (fun f w=>match af with | .inl _=>∃ (an:Hp),St w0 j w an [] | .inr _=>False) ?_ ?_
 ·refine Wb ?_
  refine WP.loopM (zB3 k l) (fun s f w=>match s with | ao=>∃ (q:Hp),f 2=(ptr b1 0)∧f 3=(ptr b3 0)∧f 5=(int ao)∧Sl q z l.fAxes∧Sl q u l.fEntries∧Sl q x k.fAxes∧Sl q t k.fEntries∧St w0 j w q [.box b3 25 [z,u],.box b1 25 [x,t]]) 0 af aw ?_ ?_
  ·exact ⟨H8,rfl,rfl,rfl,p,i,o,d,S⟩
  intro ao f w hI br c ap
  obtain ⟨q,ah,aq,ad,p,i,o,d,S⟩:=hI
  refine Ws<|Ws<|Wg<|M' ad<|Fb' ah ?_
  refine Lo 1 S<|Nq d<|La<|We ?_
  rcases condE c with ⟨ai,c⟩ | ⟨ai,c⟩
  ·refine CT ai<|Wk<|Ws<|Wb<|Ws<|WP.quiet S kr kr<|QFb' ah ?_
   refine QB 1 t<|QM' ad<|B c fun aa ax c=>WQ.idx (α:=GEntry) d rfl rfl el23 ax ?_
   rintro bs _ ay ⟨az,a0,a1,a2,rfl,a3,a4,a5,a6⟩
   refine WQ.val (fun w hw=>by obtain ⟨_,hq,S⟩:=hw; exact (R.loadHN (vs:=[az,a0,a1,(str aa.fReason),a2,(str aa.fBody),(int aa.fRequested),(int aa.fReceived)]) S rfl (At.mono ay hq (by simp)) lay36 rfl rfl))<|QFb' aq ?_
   refine QB 0 u<|QM' ad<|B c fun ab a7 c=>WQ.idx (α:=GEntry) i rfl rfl el23 a7 ?_
   rintro bt _ a8 ⟨a9,ba,bb,bc,rfl,bd,be,bf,bg⟩
   refine WQ.val (fun w hw=>by obtain ⟨_,hq,S⟩:=hw; exact (R.loadHN (vs:=[a9,ba,bb,(str ab.fReason),bc,(str ab.fBody),(int ab.fRequested),(int ab.fReceived)]) S rfl (At.mono a8 hq (by simp)) lay36 rfl rfl))<|B c fun bh bi c=>WQ.call (v:=boo bh) rfl (fun w H' hq S=>zJR S.holds aa ab (a3.up hq) (a4.up hq) (a5.up hq) (a6.up hq) (bd.up hq) (be.up hq) (bf.up hq) (bg.up hq) bi)<|QNo<|WQ.nil ?_
   intro bu bj bk S
   have ⟨d,i,p,o⟩:=U4 bk d i p o
   rcases condE c with ⟨aj,c⟩ | ⟨aj,c⟩
   ·refine CT aj<|Ws<|Wg<|A<|We ?_
    obtain rfl:=oi c
    obtain rfl:=ap
    exact WP.ret (Rb h S)
   refine CF aj<|Wk<|Wg<|M' ad<|Lg<|A<|We ?_
   obtain rfl:=oi c
   exact ⟨rfl,⟨bj,ah,aq,rfl,p,i,o,d,S⟩⟩
  refine CF ai<|Wx ?_
  obtain rfl:=oi c
  obtain rfl:=ap
  exact ⟨q,(S.pk [])⟩
 intro f w hM
 rcases af with _ | e
 ·obtain ⟨an,S⟩:=hM
  refine Ws<|Wg<|A<|We ?_
  exact WP.ret (Rb h S)
 exact hM.elim
theorem zEh {k:World} {c:Hp} (hw:Holds k c) (d:(List Str)) {l:Value} (i:Sl c l d) {r:Int} (h:zCo d=some r) :
  Ci Tryz.prog 92 [l] k c r:=by
 refine CM 19 Tryz.func92 hw fun S=>?_
 refine Ws<|Wg<|A<|We<|Ws<|Wg<|A<|We<|Ws<|Ws<|Wg<|M ?_
 refine Nq i<|M<|We<|B h fun q ab h=>WP.cut (fun f w=>∃ (t:Hp),f 3=(int q)∧St k c w t []) ?_ ?_
 ·refine Wb ?_
  refine WP.loopM (zDI d) (fun s f w=>match s with | (u,v)=>∃ (j:Hp),f 3=(int u)∧f 6=l∧f 7=(int (d.length:Int))∧f 8=(int v)∧Sl j l d∧St k c w j []) (0,0) q ab ?_ ?_
  ·exact ⟨c,rfl,rfl,rfl,rfl,i,S⟩
  intro s f w hI ah b ac
  obtain ⟨u,v⟩:=s
  obtain ⟨j,x,z,h5,o,i,S⟩:=hI
  refine Ws<|Wg<|La' o h5<|We<|Ws ?_
  rcases condE b with ⟨p,b⟩ | ⟨p,b⟩
  ·refine CT p<|Wk<|Ws<|Wb<|Ws<|Wg<|B b fun ai ad b=>W.idx (α:=Str) i z o el34 ad ?_
   rintro aj _ ae rfl
   refine Lq S ae<|A<|We<|Wg<|M' x<|M<|Ns<|Lg<|Lg<|A<|We<|Wg ?_
   refine Lg' o rfl<|M<|We ?_
   obtain rfl:=oi b
   exact ⟨rfl,⟨j,rfl,z,h5,rfl,i,S⟩⟩
  refine CF p<|Wx ?_
  obtain rfl:=oi b
  obtain rfl:=ac
  exact ⟨j,x,S⟩
 rintro f w ⟨t,af,S⟩
 refine Ws<|Wg<|M' af<|A<|We ?_
 exact WP.ret (Ri h S)
theorem zJz {w0:World} {d:Hp} (hw:Holds w0 d) (b:GEntry) {j:Value} {o:Value} {p:Value} {q:Value} (c:Sl d j b.fKeys) (t:Sl d o b.fVary) (u:Sl d p b.fSnapshot) (k:Sl d q b.fFields) {r:Int} (h:zG3 b=some r) :
  Ci Tryz.prog 58 [(agg [j,o,p,(str b.fReason),q,(str b.fBody),(int b.fRequested),(int b.fReceived)])] w0 d r:=by
 refine CM 55 Tryz.func58 hw fun S=>?_
 refine Ws<|Wg ?_
 refine W.box [j,o,p,(str b.fReason),q,(str b.fBody),(int b.fRequested),(int b.fReceived)] S rfl rfl ?_
 intro b1 w2 S
 refine A<|We<|Ws<|WP.quiet S kr kr<|QFb ?_
 refine QB 0 (str b.fReason)<|QNs<|QLg<|QFb ?_
 refine QB 0 (str b.fBody)<|QNs<|QLg ?_
 refine QFb ?_
 refine QB 0 o<|B h fun r6 a2 h=>WQ.call (v:=int r6) rfl (fun w H' hq S=>zEh S.holds b.fVary (t.up hq) a2)<|QLg<|QFb ?_
 refine QB 0 p<|B h fun am a3 h=>WQ.call (v:=int am) rfl (fun w H' hq S=>zEh S.holds b.fSnapshot (u.up hq) a3)<|QLg<|QA<|WQ.nil ?_
 intro w3 H4 a5 S
 have ⟨c,t,u,k⟩:=U4 a5 c t u k
 refine Ws<|Ws<|Wg<|Fb ?_
 refine Lo 0 S<|Nq k<|M<|We<|B h fun af a6 h=>WP.cut (fun f w=>∃ (z:Hp),f 1=(ptr b1 0)∧f 3=(int af)∧Sl z j b.fKeys∧Sl z o b.fVary∧Sl z p b.fSnapshot∧Sl z q b.fFields∧St w0 d w z [.box b1 36 [j,o,p,(str b.fReason),q,(str b.fBody),(int b.fRequested),(int b.fReceived)]]) ?_ ?_
 ·refine Wb ?_
  refine WP.loopM (zEx b) (fun s f w=>match s with | (an,ao)=>∃ (x:Hp),f 1=(ptr b1 0)∧f 3=(int an)∧f 25=q∧f 26=(int (b.fFields.length:Int))∧f 27=(int ao)∧Sl x q b.fFields∧Sl x j b.fKeys∧Sl x o b.fVary∧Sl x p b.fSnapshot∧St w0 d w x [.box b1 36 [j,o,p,(str b.fReason),q,(str b.fBody),(int b.fRequested),(int b.fReceived)]]) (wr ((wr ((wr ((wr (100+(b.fReason.length:Int)))+(b.fBody.length:Int)))+r6))+am),0) af a6 ?_ ?_
  ·exact ⟨H4,rfl,rfl,rfl,rfl,rfl,k,c,t,u,S⟩
  intro s f w hI bq aa a7
  obtain ⟨an,ao⟩:=s
  obtain ⟨x,ap,aq,ar,au,ah,k,c,t,u,S⟩:=hI
  refine Ws<|Wg<|La' ah au<|We<|Ws ?_
  rcases condE aa with ⟨ai,aa⟩ | ⟨ai,aa⟩
  ·refine CT ai<|Wk<|Ws<|Wb<|Ws<|Wg<|B aa fun ad a8 aa=>W.idx (α:=GField) k ar ah el26 a8 ?_
   rintro br _ a9 rfl
   refine WL.w (R.loadHN (vs:=[(str ad.fName),(str ad.fValue)]) S rfl a9 lay64 rfl rfl) ?_
   refine W.alloc [(str []),(str [])] S zer64 ?_
   intro bs bt S
   refine W.store (i:=0) [(str ad.fName),(str ad.fValue)] S rfl rfl rfl lay64 rfl rfl (Nat.le_of_ble_eq_true rfl) rfl ?_
   intro bu S
   refine We<|Wg<|M' aq<|Fb ?_
   refine Lo 0 S<|Ns<|Lg<|Fb ?_
   refine Lo 0 S<|Ns<|Lg<|Lg ?_
   refine A<|We<|Wg<|Lg' ah rfl<|M<|We ?_
   obtain rfl:=oi aa
   exact ⟨rfl,⟨x,ap,rfl,ar,au,rfl,k,c,t,u,(S.pk [1])⟩⟩
  refine CF ai<|Wx ?_
  obtain rfl:=oi aa
  obtain rfl:=a7
  exact ⟨x,ap,aq,c,t,u,k,S⟩
 rintro f w ⟨z,ba,bb,c,t,u,k,S⟩
 refine Ws<|Ws<|Wg<|Fb' ba ?_
 refine Lo 0 S<|Nq c<|M<|We<|B h fun av bc h=>WP.cut (fun f w=>∃ (aw:Hp),f 3=(int av)∧St w0 d w aw []) ?_ ?_
 ·refine Wb ?_
  refine WP.loopM (zDZ b) (fun s f w=>match s with | (ax,ay)=>∃ (ae:Hp),f 3=(int ax)∧f 43=j∧f 44=(int (b.fKeys.length:Int))∧f 45=(int ay)∧Sl ae j b.fKeys∧St w0 d w ae []) (af,0) av bc ?_ ?_
  ·exact ⟨z,bb,rfl,rfl,rfl,c,(S.pk [])⟩
  intro s f w hI bv l bd
  obtain ⟨ax,ay⟩:=s
  obtain ⟨ae,az,a0,a1,aj,c,S⟩:=hI
  refine Ws<|Wg<|La' aj a1<|We<|Ws ?_
  rcases condE l with ⟨ak,l⟩ | ⟨ak,l⟩
  ·refine CT ak<|Wk<|Ws<|Wb<|Ws<|Wg<|B l fun be bf l=>W.idx (α:=(List Str)) c a0 aj el33 bf ?_
   rintro bw _ bg ⟨bx,rfl,bh⟩
   refine Lq S bg<|A<|We<|Wg<|M' az<|M<|B l fun bz bi l=>W.call S rfl (zEh S.holds be bh bi) ?_
   rintro b0 b2 bj bk S rfl
   have c:=c.up bk
   refine Lg<|A<|We<|Wg<|Lg' aj rfl<|M<|We ?_
   obtain rfl:=oi l
   exact ⟨rfl,⟨bj,rfl,a0,a1,rfl,c,S⟩⟩
  refine CF ak<|Wx ?_
  obtain rfl:=oi l
  obtain rfl:=bd
  exact ⟨ae,az,S⟩
 rintro f w ⟨aw,bn,S⟩
 refine Ws<|Wg<|M' bn<|A<|We ?_
 exact WP.ret (Ri h S)
theorem zF4 {p:World} {d:Hp} (hw:Holds p d) (k:GTable) {z:Value} {o:Value} (ay:Sl d z k.fAxes) (j:Sl d o k.fEntries) {r:Int} (h:zGw k=some r) :
  Ci Tryz.prog 25 [(agg [z,o])] p d r:=by
 refine CM 19 Tryz.func25 hw fun S=>?_
 refine Ws<|Wg ?_
 refine W.box [z,o] S rfl rfl ?_
 intro b1 w2 S
 refine A<|We<|Ws<|Wg<|A<|We<|Ws<|Ws<|Wg<|Fb ?_
 refine Lo 0 S<|Nq j ?_
 refine M<|We<|B h fun ac ao h=>WP.cut (fun f w=>∃ (ad:Hp),f 3=(int ac)∧St p d w ad []) ?_ ?_
 ·refine Wb ?_
  refine WP.loopM (zDY k) (fun s f w=>match s with | (ae,af)=>∃ (q:Hp),f 3=(int ae)∧f 7=o∧f 8=(int (k.fEntries.length:Int))∧f 9=(int af)∧Sl q o k.fEntries∧St p d w q []) (0,0) ac ao ?_ ?_
  ·exact ⟨d,rfl,rfl,rfl,rfl,j,(S.pk [])⟩
  intro s f w hI a1 c ap
  obtain ⟨ae,af⟩:=s
  obtain ⟨q,h5,h6,h7,h9,j,S⟩:=hI
  refine Ws<|Wg<|La' h9 h7<|We<|Ws ?_
  rcases condE c with ⟨ab,c⟩ | ⟨ab,c⟩
  ·refine CT ab<|Wk<|Ws<|Wb<|Ws<|Wg<|B c fun b aq c=>W.idx (α:=GEntry) j h6 h9 el23 aq ?_
   rintro a2 _ ar ⟨t,u,v,x,rfl,ak,al,am,an⟩
   refine WL.w (R.loadHN (vs:=[t,u,v,(str b.fReason),x,(str b.fBody),(int b.fRequested),(int b.fReceived)]) S rfl ar lay36 rfl rfl) ?_
   refine W.alloc [(.slice none 0 0),(.slice none 0 0),(.slice none 0 0),(str []),(.slice none 0 0),(str []),(int 0),(int 0)] S zer36 ?_
   intro a3 a4 S
   refine W.store (i:=0) [t,u,v,(str b.fReason),x,(str b.fBody),(int b.fRequested),(int b.fReceived)] S rfl rfl rfl lay36 rfl (AllOne.all (l:=[t,u,v,(str b.fReason),x,(str b.fBody),(int b.fRequested),(int b.fReceived)]) (.cons (Sl.oneC ak) (.cons (Sl.oneC al) (.cons (Sl.oneC am) (.cons rfl (.cons (Sl.oneC an) (.cons rfl (.cons rfl (.cons rfl .nil))))))))) (Nat.le_of_ble_eq_true rfl) rfl ?_
   intro a5 S
   refine We<|Wg<|M' h5 ?_
   refine WL.w (R.loadBN (i:=0) (vs:=[t,u,v,(str b.fReason),x,(str b.fBody),(int b.fRequested),(int b.fReceived)]) S rfl rfl lay36 rfl rfl)<|B c fun a6 au c=>W.call S rfl (zJz S.holds b ak al am an au) ?_
   rintro a7 a8 av aw S rfl
   have j:=j.up aw
   refine Lg<|A<|We<|Wg<|Lg' h9 rfl<|M<|We ?_
   obtain rfl:=oi c
   exact ⟨rfl,⟨av,rfl,h6,h7,rfl,j,(S.pk [])⟩⟩
  refine CF ab<|Wx ?_
  obtain rfl:=oi c
  obtain rfl:=ap
  exact ⟨q,h5,S⟩
 rintro f w ⟨ad,ax,S⟩
 refine Ws<|Wg<|M' ax<|A<|We ?_
 exact WP.ret (Ri h S)
end Go.Proofs
