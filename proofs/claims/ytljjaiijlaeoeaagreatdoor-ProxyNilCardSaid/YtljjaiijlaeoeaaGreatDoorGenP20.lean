/- A part. -/
import Derived.Test.YtljjaiijlaeoeaaGreatDoorEng38
import Derived.Test.YtljjaiijlaeoeaaGreatDoorEng36
import Derived.Test.YtljjaiijlaeoeaaGreatDoorGenP19
namespace Go.Proofs
set_option maxHeartbeats 4000000
set_option maxRecDepth 10000
open Go.Eng Go.Eng.Pure
set_option linter.unusedVariables false
theorem zHF {l:World} {j:Hp} (hw:Holds l j) (hG:Tryz.Gl l) (i:(List Gvariantproxykeep_Step)) {k:Value} (d:Sl j k i) {r:Bool} (h:zES i=some r) :
  Cb Tryz.prog 21 [k] l j r:=by
 refine CM 24 Tryz.func21 hw fun S=>?_
 refine Ws<|Wg<|A<|We<|Ws<|Ws<|Wg<|A<|We<|B h fun u ab h=>WP.cut (fun f w=>match u with | .inl _=>∃ (v:Hp),f 0=k∧Sl v k i∧St l j w v [] | .inr _=>False) ?_ ?_
 ·refine Wb ?_
  refine WP.loopM (zBr i) (fun s f w=>match s with | o=>∃ (p:Hp),f 0=k∧f 3=(int o)∧Sl p k i∧St l j w p []) 0 u ab ?_ ?_
  ·exact ⟨j,rfl,rfl,d,S⟩
  intro o f w hI y7 b aa
  obtain ⟨p,q,t,d,S⟩:=hI
  refine Ws<|Ws<|Wg<|M' t<|M' q<|Nq d<|La<|M ?_
  refine WL.grp 3 [9,10] 11 (boo ((decide (o<(i.length:Int)))&&(decide (o<17)))) ?_ ?_
  ·rcases boolE (decide (o<(i.length:Int))) with c | c
   ·refine Gy c<|M' t<|Gy c<|La<|Pt c ?_
    exact We ⟨(andT c),ag,rfl⟩
   refine Gn c<|Gn c<|Pf c ?_
   exact We ⟨(andF c),ag,rfl⟩
  intro us
  refine We ?_
  rcases condE b with ⟨x,b⟩ | ⟨x,b⟩
  ·refine CT x<|Wk<|Ws<|Wb<|Ws<|Wg<|M' q<|M' t<|B b fun ai ac b=>W.idx (α:=Gvariantproxykeep_Step) d rfl rfl el50 ac ?_
   rintro aj _ ad rfl
   refine Fc ?_
   have ae:=At.add ad 2 (by simp)
   refine Lq S ae<|Ns<|Lc<|We ?_
   rcases condE b with ⟨z,b⟩ | ⟨z,b⟩
   ·refine CT z<|Ws<|Wg<|A<|We ?_
    obtain rfl:=oi b
    obtain rfl:=aa
    exact WP.ret (Rb h S)
   refine CF z<|Wk<|Wg<|M' t<|Lg<|A<|We ?_
   obtain rfl:=oi b
   exact ⟨rfl,⟨p,q,rfl,d,S⟩⟩
  refine CF x<|Wx ?_
  obtain rfl:=oi b
  obtain rfl:=aa
  exact ⟨p,q,d,S⟩
 intro f w hM
 rcases u with _ | e
 ·obtain ⟨v,h6,d,S⟩:=hM
  refine Ws<|Wg<|M' h6<|Nq d<|Lb<|A<|We ?_
  exact WP.ret (Rb h S)
 exact hM.elim
theorem zD8 {c:World} {d:Hp} (hw:Holds c d) (hG:Tryz.Gl c) (b:Gvariantproxykeep_Step) {r:Int} (h:zCi b=some r) :
  Ci Tryz.prog 43 [(agg [(int b.fKind),(int b.fN),(str b.fText)])] c d r:=by
 refine CM 8 Tryz.func43 hw fun S=>?_
 refine Ws<|Wg ?_
 refine W.box [(int b.fKind),(int b.fN),(str b.fText)] S rfl rfl ?_
 intro j k S
 refine A<|We<|Ws<|Wg<|Fb ?_
 refine Lo 0 S<|B h fun l f h=>?_
 refine WL.w (R.rem' rfl rfl f)<|Lg<|B h fun o i h=>?_
 refine WL.w (R.rem' rfl rfl i)<|A<|We ?_
 exact WP.ret (Ri h S)
theorem zAy {j:World} {d:Hp} (hw:Holds j d) (hG:Tryz.Gl j) (l:(List Str)) (o:(List Str)) {p:Value} {q:Value} (c:Sl d p l) (i:Sl d q o) {r:Bool} (h:zAu l o=some r) :
  Cb Tryz.prog 82 [p,q] j d r:=by
 refine CM 26 Tryz.func82 hw fun S=>?_
 refine Ws<|Wg<|A<|We<|Ws<|Ws<|Wg<|M<|Nq c<|M<|Nq i<|Lf ?_
 refine We ?_
 rcases condE h with ⟨u,h⟩ | ⟨u,h⟩
 ·refine CT u<|Ws<|Wg<|A<|We ?_
  exact WP.ret (Rb h S)
 refine CF u<|Wk<|Ws<|Ws<|Wg<|A<|We<|B h fun v af h=>WP.cut (fun f w=>match v with | .inl _=>∃ (H7:Hp),St j d w H7 [] | .inr _=>False) ?_ ?_
 ·refine Wb ?_
  refine WP.loopM (zCO l o) (fun s f w=>match s with | ac=>∃ (k:Hp),f 0=p∧f 1=q∧f 5=(int ac)∧Sl k p l∧Sl k q o∧St j d w k []) 0 v (lfW af) ?_ ?_
  ·exact ⟨d,rfl,rfl,rfl,c,i,S⟩
  intro ac f w hI y8 b ad
  obtain ⟨k,x,h4,t,c,i,S⟩:=hI
  refine Ws<|Ws<|Wg<|M' t<|M' x<|Nq c<|La<|We ?_
  rcases condE b with ⟨z,b⟩ | ⟨z,b⟩
  ·refine CT z<|Wk<|Ws<|Wb<|Ws<|WP.quiet S kr kr<|QM' x<|QM' t<|B b fun ah ai b=>WQ.idx (α:=Str) c rfl rfl el45 ai ?_
   rintro aq _ aj rfl
   refine QH (str ah) aj<|QM' h4<|QM' t<|B b fun ak al b=>WQ.idx (α:=Str) i rfl rfl el45 al ?_
   rintro ar _ am rfl
   refine QH (str ak) am<|QNb<|WQ.nil ?_
   intro au an ao S
   have ⟨c,i⟩:=U2 ao c i
   rcases condE b with ⟨aa,b⟩ | ⟨aa,b⟩
   ·refine CT aa<|Ws<|Wg<|A<|We ?_
    obtain rfl:=oi b
    obtain rfl:=ad
    exact WP.ret (Rb h S)
   refine CF aa<|Wk<|Wg<|M' t<|Lg<|A<|We ?_
   obtain rfl:=oi b
   exact ⟨rfl,⟨an,x,h4,rfl,c,i,S⟩⟩
  refine CF z<|Wx ?_
  obtain rfl:=oi b
  obtain rfl:=ad
  exact ⟨k,S⟩
 intro f w hM
 rcases v with _ | e
 ·obtain ⟨H7,S⟩:=hM
  refine Ws<|Wg<|A<|We ?_
  exact WP.ret (Rb h S)
 exact hM.elim
theorem zGr {o:World} {k:Hp} (hw:Holds o k) (hG:Tryz.Gl o) (q:(List GAxis)) (t:(List GAxis)) {u:Value} {x:Value} (i:Sl k u q) (j:Sl k x t) {r:Bool} (h:zGK q t=some r) :
  Cb Tryz.prog 46 [u,x] o k r:=by
 refine CM 42 Tryz.func46 hw fun S=>?_
 refine Ws<|Wg<|A<|We<|Ws<|Ws<|Wg<|M<|Nq i<|M<|Nq j<|Lf ?_
 refine We ?_
 rcases condE h with ⟨aa,h⟩ | ⟨aa,h⟩
 ·refine CT aa<|Ws<|Wg<|A<|We ?_
  exact WP.ret (Rb h S)
 refine CF aa<|Wk<|Ws<|Ws<|Wg<|A<|We<|B h fun ab al h=>WP.cut (fun f w=>match ab with | .inl _=>∃ (H7:Hp),St o k w H7 [] | .inr _=>False) ?_ ?_
 ·refine Wb ?_
  refine WP.loopM (zEe q t) (fun s f w=>match s with | ah=>∃ (p:Hp),f 0=u∧f 1=x∧f 5=(int ah)∧Sl p u q∧Sl p x t∧St o k w p []) 0 ab (lfW al) ?_ ?_
  ·exact ⟨k,rfl,rfl,rfl,i,j,S⟩
  intro ah f w hI y8 c ai
  obtain ⟨p,z,h4,l,i,j,S⟩:=hI
  refine Ws<|Ws<|Wg<|M' l<|M' z<|Nq i<|La<|We ?_
  rcases condE c with ⟨ad,c⟩ | ⟨ad,c⟩
  ·refine CT ad<|Wk<|Ws<|Wb<|Ws<|WP.quiet S kr kr<|QM' z<|QM' l<|B c fun aj am c=>WQ.idx (α:=GAxis) i rfl rfl el59 am ?_
   rintro bc _ an ⟨bd,rfl,be⟩
   refine QFc ?_
   have ao:=At.add an 0 (by simp)
   refine QH (str aj.fName) ao<|QM' h4<|QM' l<|B c fun ak ap c=>WQ.idx (α:=GAxis) j rfl rfl el59 ap ?_
   rintro bf _ aq ⟨bg,rfl,bh⟩
   refine QFc ?_
   have ar:=At.add aq 0 (by simp)
   refine QH (str ak.fName) ar<|QNb<|QM<|B c fun au d c=>WQ.grp 13 [29,30,31,32,33,34,35,36,37,38,39,40] 41 (boo au) ?_ ?_
   ·rcases boolE (aj.fName !=ak.fName) with b | b
    ·replace d:=condT d b
     refine QGn b<|QGn b<|QGn b<|QGn b<|QGn b<|QGn b<|QGn b<|QGn b<|QGn b<|QGn b<|QGn b<|QGn b ?_
     refine QPt b ?_
     exact WQ.nil ⟨(ob d),ag⟩
    replace d:=condF d b
    refine QGy b<|QM' z<|QGy b<|QM' l<|QGy b<|B d fun av aw d=>WQ.idx (α:=GAxis) i rfl rfl el59 aw ?_
    rintro bi _ ax ⟨ay,rfl,az⟩
    refine QGy b<|QFc ?_
    have a0:=At.add ax 1 (by simp)
    refine QGy b ?_
    refine QH ay a0<|QGy b<|QM' h4<|QGy b<|QM' l<|QGy b<|B d fun a1 a2 d=>WQ.idx (α:=GAxis) j rfl rfl el59 a2 ?_
    rintro bj _ a3 ⟨a4,rfl,a5⟩
    refine QGy b<|QFc ?_
    have a6:=At.add a3 1 (by simp)
    refine QGy b ?_
    refine QH a4 a6<|QGy b<|B d fun a7 a8 d=>WQ.call (v:=boo a7) rfl (fun w H' hq S=>zAy S.holds (hG.post S.post) av.fValues a1.fValues (az.up hq) (a5.up hq) a8)<|QGy b<|QNo<|QPf b ?_
    exact WQ.nil ⟨(ob d),ag⟩
   intro us
   refine WQ.nil ?_
   intro bk a9 ba S
   have ⟨i,j⟩:=U2 ba i j
   rcases condE c with ⟨ae,c⟩ | ⟨ae,c⟩
   ·refine CT ae<|Ws<|Wg<|A<|We ?_
    obtain rfl:=oi c
    obtain rfl:=ai
    exact WP.ret (Rb h S)
   refine CF ae<|Wk<|Wg<|M' l<|Lg<|A<|We ?_
   obtain rfl:=oi c
   exact ⟨rfl,⟨a9,z,h4,rfl,i,j,S⟩⟩
  refine CF ad<|Wx ?_
  obtain rfl:=oi c
  obtain rfl:=ai
  exact ⟨p,S⟩
 intro f w hM
 rcases ab with _ | e
 ·obtain ⟨H7,S⟩:=hM
  refine Ws<|Wg<|A<|We ?_
  exact WP.ret (Rb h S)
 exact hM.elim
theorem zGC {j:World} {d:Hp} (hw:Holds j d) (hG:Tryz.Gl j) (l:(List (List Str))) (o:(List (List Str))) {p:Value} {q:Value} (c:Sl d p l) (i:Sl d q o) {r:Bool} (h:zEV l o=some r) :
  Cb Tryz.prog 83 [p,q] j d r:=by
 refine CM 27 Tryz.func83 hw fun S=>?_
 refine Ws<|Wg<|A<|We<|Ws<|Ws<|Wg<|M<|Nq c<|M<|Nq i<|Lf ?_
 refine We ?_
 rcases condE h with ⟨u,h⟩ | ⟨u,h⟩
 ·refine CT u<|Ws<|Wg<|A<|We ?_
  exact WP.ret (Rb h S)
 refine CF u<|Wk<|Ws<|Ws<|Wg<|A<|We<|B h fun x ah h=>WP.cut (fun f w=>match x with | .inl _=>∃ (H7:Hp),St j d w H7 [] | .inr _=>False) ?_ ?_
 ·refine Wb ?_
  refine WP.loopM (zDT l o) (fun s f w=>match s with | ad=>∃ (k:Hp),f 0=p∧f 1=q∧f 5=(int ad)∧Sl k p l∧Sl k q o∧St j d w k []) 0 x (lfW ah) ?_ ?_
  ·exact ⟨d,rfl,rfl,rfl,c,i,S⟩
  intro ad f w hI y8 b ae
  obtain ⟨k,z,h4,t,c,i,S⟩:=hI
  refine Ws<|Ws<|Wg<|M' t<|M' z<|Nq c<|La<|We ?_
  rcases condE b with ⟨aa,b⟩ | ⟨aa,b⟩
  ·refine CT aa<|Wk<|Ws<|Wb<|Ws<|WP.quiet S kr kr<|QM' z<|QM' t<|B b fun ai aj b=>WQ.idx (α:=(List Str)) c rfl rfl el90 aj ?_
   rintro az _ ak ⟨al,rfl,am⟩
   refine QH al ak<|QM' h4<|QM' t<|B b fun an ao b=>WQ.idx (α:=(List Str)) i rfl rfl el90 ao ?_
   rintro a0 _ ap ⟨aq,rfl,ar⟩
   refine QH aq ap<|B b fun au av b=>WQ.call (v:=boo au) rfl (fun w H' hq S=>zAy S.holds (hG.post S.post) ai an (am.up hq) (ar.up hq) av)<|QNo<|WQ.nil ?_
   intro a1 aw ax S
   have ⟨c,i⟩:=U2 ax c i
   rcases condE b with ⟨ab,b⟩ | ⟨ab,b⟩
   ·refine CT ab<|Ws<|Wg<|A<|We ?_
    obtain rfl:=oi b
    obtain rfl:=ae
    exact WP.ret (Rb h S)
   refine CF ab<|Wk<|Wg<|M' t<|Lg<|A<|We ?_
   obtain rfl:=oi b
   exact ⟨rfl,⟨aw,z,h4,rfl,c,i,S⟩⟩
  refine CF aa<|Wx ?_
  obtain rfl:=oi b
  obtain rfl:=ae
  exact ⟨k,S⟩
 intro f w hM
 rcases x with _ | e
 ·obtain ⟨H7,S⟩:=hM
  refine Ws<|Wg<|A<|We ?_
  exact WP.ret (Rb h S)
 exact hM.elim
theorem zE3 {j:World} {d:Hp} (hw:Holds j d) (hG:Tryz.Gl j) (l:(List GField)) (o:(List GField)) {p:Value} {q:Value} (c:Sl d p l) (i:Sl d q o) {r:Bool} (h:zDp l o=some r) :
  Cb Tryz.prog 25 [p,q] j d r:=by
 refine CM 26 Tryz.func25 hw fun S=>?_
 refine Ws<|Wg<|A<|We<|Ws<|Ws<|Wg<|M<|Nq c<|M<|Nq i<|Lf ?_
 refine We ?_
 rcases condE h with ⟨x,h⟩ | ⟨x,h⟩
 ·refine CT x<|Ws<|Wg<|A<|We ?_
  exact WP.ret (Rb h S)
 refine CF x<|Wk<|Ws<|Ws<|Wg<|A<|We<|B h fun z ai h=>WP.cut (fun f w=>match z with | .inl _=>∃ (H7:Hp),St j d w H7 [] | .inr _=>False) ?_ ?_
 ·refine Wb ?_
  refine WP.loopM (zCl l o) (fun s f w=>match s with | ae=>∃ (k:Hp),f 0=p∧f 1=q∧f 5=(int ae)∧Sl k p l∧Sl k q o∧St j d w k []) 0 z (lfW ai) ?_ ?_
  ·exact ⟨d,rfl,rfl,rfl,c,i,S⟩
  intro ae f w hI y8 b af
  obtain ⟨k,h3,h4,t,c,i,S⟩:=hI
  refine Ws<|Ws<|Wg<|M' t<|M' h3<|Nq c<|La<|We ?_
  rcases condE b with ⟨ab,b⟩ | ⟨ab,b⟩
  ·refine CT ab<|Wk<|Ws<|Wb<|Ws<|WP.quiet S kr kr<|QM' h3<|QM' t<|B b fun u aj b=>WQ.idx (α:=GField) c rfl rfl el22 aj ?_
   rintro aq _ ak rfl
   refine WQ.val (fun w hw=>by obtain ⟨_,hq,S⟩:=hw; exact (R.loadHN (vs:=[(str u.fName),(str u.fValue)]) S rfl (At.mono ak hq (by simp)) lay68 rfl rfl))<|QM' h4<|QM' t<|B b fun v al b=>WQ.idx (α:=GField) i rfl rfl el22 al ?_
   rintro ar _ am rfl
   refine WQ.val (fun w hw=>by obtain ⟨_,hq,S⟩:=hw; exact (R.loadHN (vs:=[(str v.fName),(str v.fValue)]) S rfl (At.mono am hq (by simp)) lay68 rfl rfl)) ?_
   refine WQ.val (fun _ _=>(R.neqA (!((u.fName==v.fName)&&((u.fValue==v.fValue)&&true))) rfl rfl ps68 fk68 rfl rfl rfl))<|WQ.nil ?_
   intro au an ao S
   have ⟨c,i⟩:=U2 ao c i
   rcases condE b with ⟨ac,b⟩ | ⟨ac,b⟩
   ·refine CT ac<|Ws<|Wg<|A<|We ?_
    obtain rfl:=oi b
    obtain rfl:=af
    exact WP.ret (Rb h S)
   refine CF ac<|Wk<|Wg<|M' t<|Lg<|A<|We ?_
   obtain rfl:=oi b
   exact ⟨rfl,⟨an,h3,h4,rfl,c,i,S⟩⟩
  refine CF ab<|Wx ?_
  obtain rfl:=oi b
  obtain rfl:=af
  exact ⟨k,S⟩
 intro f w hM
 rcases z with _ | e
 ·obtain ⟨H7,S⟩:=hM
  refine Ws<|Wg<|A<|We ?_
  exact WP.ret (Rb h S)
 exact hM.elim
theorem zGs {w0:World} {p:Hp} (hw:Holds w0 p) (hG:Tryz.Gl w0) (b:GEntry) (c:GEntry) {ad:Value} {ae:Value} {af:Value} {ah:Value} {ai:Value} {aj:Value} {ak:Value} {al:Value} (az:Sl p ad b.fKeys) (an:Sl p ae b.fVary) (z:Sl p af b.fSnapshot) (q:Sl p ah b.fFields) (a0:Sl p ai c.fKeys) (ao:Sl p aj c.fVary) (aa:Sl p ak c.fSnapshot) (t:Sl p al c.fFields) {r:Bool} (h:zGH b c=some r) :
  Cb Tryz.prog 47 [(agg [ad,ae,af,(str b.fReason),ah,(str b.fBody),(int b.fRequested),(int b.fReceived)]),(agg [ai,aj,ak,(str c.fReason),al,(str c.fBody),(int c.fRequested),(int c.fReceived)])] w0 p r:=by
 refine CM 59 Tryz.func47 hw fun S=>?_
 refine Ws<|Wg ?_
 refine W.box [ad,ae,af,(str b.fReason),ah,(str b.fBody),(int b.fRequested),(int b.fReceived)] S rfl rfl ?_
 intro b1 w2 S
 refine W.box [ai,aj,ak,(str c.fReason),al,(str c.fBody),(int c.fRequested),(int c.fReceived)] S rfl rfl ?_
 intro b3 w4 S
 refine A<|We<|Ws<|Wg<|Fb ?_
 refine Lo 1 S<|Fb ?_
 refine Lo 0 S<|B h fun r5 a2 h=>W.call S rfl (zGC S.holds (hG.post S.post) b.fKeys c.fKeys az a0 a2) ?_
 rintro v6 w7 H8 a3 S rfl
 have ⟨an,z,q,ao,aa,t⟩:=U6 a3 an z q ao aa t
 refine M<|B h fun au u h=>WL.grpw 6 [11,12,13,14,15] 16 (boo au) (fun w=>∃ H':Hp,H8.le H'∧St w0 p w H' [.box b3 92 [ai,aj,ak,(str c.fReason),al,(str c.fBody),(int c.fRequested),(int c.fReceived)],.box b1 92 [ad,ae,af,(str b.fReason),ah,(str b.fBody),(int b.fRequested),(int b.fReceived)]]) ?_ ?_
 ·rcases boolE r5 with d | d
  ·replace u:=condT u d
   refine Gy d<|Fb<|Gy d ?_
   refine Lo 1 S<|Gy d<|Fb<|Gy d ?_
   refine Lo 0 S<|Gy d<|B u fun bh a4 u=>W.call S rfl (zAy S.holds (hG.post S.post) b.fVary c.fVary an ao a4) ?_
   rintro bi bj a5 av S rfl
   have ⟨z,q,aa,t⟩:=U4 av z q aa t
   refine Pt d ?_
   exact We ⟨(ob u),ag,⟨a5,av,S⟩⟩
  replace u:=condF u d
  refine Gn d<|Gn d<|Gn d<|Gn d<|Gn d<|Pf d ?_
  exact We ⟨(ob u),ag,⟨H8,lr,S⟩⟩
 intro us bk ⟨aw,a6,S⟩
 have ⟨z,q,aa,t⟩:=U4 a6 z q aa t
 refine M<|B h fun am v h=>WL.grpw 6 [18,19,20,21,22] 23 (boo am) (fun w=>∃ H':Hp,aw.le H'∧St w0 p w H' [.box b3 92 [ai,aj,ak,(str c.fReason),al,(str c.fBody),(int c.fRequested),(int c.fReceived)],.box b1 92 [ad,ae,af,(str b.fReason),ah,(str b.fBody),(int b.fRequested),(int b.fReceived)]]) ?_ ?_
 ·rcases boolE au with f | f
  ·replace v:=condT v f
   refine Gy f<|Fb<|Gy f ?_
   refine Lo 1 S<|Gy f<|Fb<|Gy f ?_
   refine Lo 0 S<|Gy f<|B v fun bn a7 v=>W.call S rfl (zAy S.holds (hG.post S.post) b.fSnapshot c.fSnapshot z aa a7) ?_
   rintro bo bp a8 ax S rfl
   have ⟨q,t⟩:=U2 ax q t
   refine Pt f ?_
   exact We ⟨(ob v),ag,⟨a8,ax,S⟩⟩
  replace v:=condF v f
  refine Gn f<|Gn f<|Gn f<|Gn f<|Gn f<|Pf f ?_
  exact We ⟨(ob v),ag,⟨aw,lr,S⟩⟩
 intro us bq ⟨ay,a9,S⟩
 have ⟨q,t⟩:=U2 a9 q t
 refine M ?_
 refine WL.grp 6 [25,26,27,28,29] 30 (boo (am&&(b.fReason==c.fReason))) ?_ ?_
 ·rcases boolE am with i | i
  ·refine Gy i<|Fb<|Gy i ?_
   refine Lo 1 S<|Gy i<|Fb<|Gy i ?_
   refine Lo 0 S<|Gy i<|Na<|Pt i ?_
   exact We ⟨(andT i),ag,rfl⟩
  refine Gn i<|Gn i<|Gn i<|Gn i<|Gn i<|Pf i ?_
  exact We ⟨(andF i),ag,rfl⟩
 intro us
 refine M<|B h fun ab x h=>WL.grpw 6 [32,33,34,35,36] 37 (boo ab) (fun w=>∃ H':Hp,ay.le H'∧St w0 p w H' [.box b3 92 [ai,aj,ak,(str c.fReason),al,(str c.fBody),(int c.fRequested),(int c.fReceived)],.box b1 92 [ad,ae,af,(str b.fReason),ah,(str b.fBody),(int b.fRequested),(int b.fReceived)]]) ?_ ?_
 ·rcases boolE (am&&(b.fReason==c.fReason)) with j | j
  ·replace x:=condT x j
   refine Gy j<|Fb<|Gy j ?_
   refine Lo 1 S<|Gy j<|Fb<|Gy j ?_
   refine Lo 0 S<|Gy j<|B x fun br ba x=>W.call S rfl (zE3 S.holds (hG.post S.post) b.fFields c.fFields q t ba) ?_
   rintro bs bt bb bc S rfl
   refine Pt j ?_
   exact We ⟨(ob x),ag,⟨bb,bc,S⟩⟩
  replace x:=condF x j
  refine Gn j<|Gn j<|Gn j<|Gn j<|Gn j<|Pf j ?_
  exact We ⟨(ob x),ag,⟨ay,lr,S⟩⟩
 intro us bu ⟨bv,bw,S⟩
 refine M ?_
 refine WL.grp 6 [39,40,41,42,43] 44 (boo (ab&&(b.fBody==c.fBody))) ?_ ?_
 ·rcases boolE ab with k | k
  ·refine Gy k<|Fb<|Gy k ?_
   refine Lo 1 S<|Gy k<|Fb<|Gy k ?_
   refine Lo 0 S<|Gy k<|Na<|Pt k ?_
   exact We ⟨(andT k),ag,rfl⟩
  refine Gn k<|Gn k<|Gn k<|Gn k<|Gn k<|Pf k ?_
  exact We ⟨(andF k),ag,rfl⟩
 intro us
 refine M ?_
 refine WL.grp 6 [46,47,48,49,50] 51 (boo ((ab&&(b.fBody==c.fBody))&&(b.fRequested==c.fRequested))) ?_ ?_
 ·rcases boolE (ab&&(b.fBody==c.fBody)) with l | l
  ·refine Gy l<|Fb<|Gy l ?_
   refine Lo 1 S<|Gy l<|Fb<|Gy l ?_
   refine Lo 0 S<|Gy l<|Le<|Pt l ?_
   exact We ⟨(andT l),ag,rfl⟩
  refine Gn l<|Gn l<|Gn l<|Gn l<|Gn l<|Pf l ?_
  exact We ⟨(andF l),ag,rfl⟩
 intro us
 refine M ?_
 refine WL.grp 6 [53,54,55,56,57] 58 (boo (((ab&&(b.fBody==c.fBody))&&(b.fRequested==c.fRequested))&&(b.fReceived==c.fReceived))) ?_ ?_
 ·rcases boolE ((ab&&(b.fBody==c.fBody))&&(b.fRequested==c.fRequested)) with o | o
  ·refine Gy o<|Fb<|Gy o ?_
   refine Lo 1 S<|Gy o<|Fb<|Gy o ?_
   refine Lo 0 S<|Gy o<|Le<|Pt o ?_
   exact We ⟨(andT o),ag,rfl⟩
  refine Gn o<|Gn o<|Gn o<|Gn o<|Gn o<|Pf o ?_
  exact We ⟨(andF o),ag,rfl⟩
 intro us
 refine A<|We ?_
 exact WP.ret (Rb h S)
theorem zAI {x:World} {j:Hp} (hw:Holds x j) (hG:Tryz.Gl x) (k:GTable) (l:GTable) {z:Value} {t:Value} {aa:Value} {u:Value} (o:Sl j z k.fAxes) (d:Sl j t k.fEntries) (p:Sl j aa l.fAxes) (i:Sl j u l.fEntries) {r:Bool} (h:zAH k l=some r) :
  Cb Tryz.prog 24 [(agg [z,t]),(agg [aa,u])] x j r:=by
 refine CM 40 Tryz.func24 hw fun S=>?_
 refine Ws<|Wg ?_
 refine W.box [z,t] S rfl rfl ?_
 intro b1 w2 S
 refine W.box [aa,u] S rfl rfl ?_
 intro b3 w4 S
 refine A<|We<|Ws<|Ws<|Wg<|Fb ?_
 refine Lo 1 S<|Fb ?_
 refine Lo 0 S<|B h fun r5 ar h=>W.call S rfl (zGr S.holds (hG.post S.post) k.fAxes l.fAxes o p ar) ?_
 rintro v6 w7 H8 av S rfl
 have ⟨o,d,p,i⟩:=U4 av o d p i
 refine No<|M ?_
 refine WL.grp 8 [13,14,15,16,17,18,19] 20 (boo ((!r5)||((k.fEntries.length:Int) !=(l.fEntries.length:Int)))) ?_ ?_
 ·rcases boolE (!r5) with b | b
  ·refine Gn b<|Gn b<|Gn b<|Gn b<|Gn b<|Gn b<|Gn b<|Pt b ?_
   exact We ⟨(orT b),ag,rfl⟩
  refine Gy b<|Fb<|Gy b ?_
  refine Lo 1 S<|Gy b<|Nq d<|Gy b<|Fb<|Gy b ?_
  refine Lo 0 S<|Gy b<|Nq i ?_
  refine Gy b<|Lf<|Pf b ?_
  exact We ⟨(orF b),ag,rfl⟩
 intro us
 refine We ?_
 rcases condE h with ⟨ae,h⟩ | ⟨ae,h⟩
 ·refine CT ae<|Ws<|Wg<|A<|We ?_
  exact WP.ret (Rb h S)
 refine CF ae<|Wk<|Ws<|Ws<|Wg<|A<|We<|B h fun af aw h=>WP.cut (fun f w=>match af with | .inl _=>∃ (an:Hp),St x j w an [] | .inr _=>False) ?_ ?_
 ·refine Wb ?_
  refine WP.loopM (zCo k l) (fun s f w=>match s with | ao=>∃ (q:Hp),f 2=(ptr b1 0)∧f 3=(ptr b3 0)∧f 5=(int ao)∧Sl q aa l.fAxes∧Sl q u l.fEntries∧Sl q z k.fAxes∧Sl q t k.fEntries∧St x j w q [.box b3 62 [aa,u],.box b1 62 [z,t]]) 0 af (lfW aw) ?_ ?_
  ·exact ⟨H8,rfl,rfl,rfl,p,i,o,d,S⟩
  intro ao f w hI br c ap
  obtain ⟨q,ah,aq,ad,p,i,o,d,S⟩:=hI
  refine Ws<|Ws<|Wg<|M' ad<|Fb' ah ?_
  refine Lo 1 S<|Nq d<|La<|We ?_
  rcases condE c with ⟨ai,c⟩ | ⟨ai,c⟩
  ·refine CT ai<|Wk<|Ws<|Wb<|Ws<|WP.quiet S kr kr<|QFb' ah ?_
   refine QB 1 t<|QM' ad<|B c fun ab ax c=>WQ.idx (α:=GEntry) d rfl rfl el60 ax ?_
   rintro bs _ ay ⟨az,a0,a1,a2,rfl,a3,a4,a5,a6⟩
   refine WQ.val (fun w hw=>by obtain ⟨_,hq,S⟩:=hw; exact (R.loadHN (vs:=[az,a0,a1,(str ab.fReason),a2,(str ab.fBody),(int ab.fRequested),(int ab.fReceived)]) S rfl (At.mono ay hq (by simp)) lay92 rfl rfl))<|QFb' aq ?_
   refine QB 0 u<|QM' ad<|B c fun ac a7 c=>WQ.idx (α:=GEntry) i rfl rfl el60 a7 ?_
   rintro bt _ a8 ⟨a9,ba,bb,bc,rfl,bd,be,bf,bg⟩
   refine WQ.val (fun w hw=>by obtain ⟨_,hq,S⟩:=hw; exact (R.loadHN (vs:=[a9,ba,bb,(str ac.fReason),bc,(str ac.fBody),(int ac.fRequested),(int ac.fReceived)]) S rfl (At.mono a8 hq (by simp)) lay92 rfl rfl))<|B c fun bh bi c=>WQ.call (v:=boo bh) rfl (fun w H' hq S=>zGs S.holds (hG.post S.post) ab ac (a3.up hq) (a4.up hq) (a5.up hq) (a6.up hq) (bd.up hq) (be.up hq) (bf.up hq) (bg.up hq) bi)<|QNo<|WQ.nil ?_
   intro bu bj bk S
   have ⟨d,i,p,o⟩:=U4 bk d i p o
   rcases condE c with ⟨aj,c⟩ | ⟨aj,c⟩
   ·refine CT aj<|Ws<|Wg<|A<|We ?_
    obtain rfl:=oi c
    obtain rfl:=ap
    exact WP.ret (Rb h S)
   refine CF aj<|Wk<|Wg<|M' ad<|Lg<|A<|We ?_
   obtain rfl:=oi c
   exact ⟨rfl,⟨bj,ah,aq,rfl,p,i,o,d,S⟩⟩
  refine CF ai<|Wx ?_
  obtain rfl:=oi c
  obtain rfl:=ap
  exact ⟨q,(S.pk [])⟩
 intro f w hM
 rcases af with _ | e
 ·obtain ⟨an,S⟩:=hM
  refine Ws<|Wg<|A<|We ?_
  exact WP.ret (Rb h S)
 exact hM.elim
end Go.Proofs
