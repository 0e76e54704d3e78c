/- A part of the proof of laws of the seat: written by program over the translation. -/
import Derived.Test.YtipgfplekgdoiaaGreatDoorEng38
import Derived.Test.YtipgfplekgdoiaaGreatDoorEng32
import Derived.Test.YtipgfplekgdoiaaGreatDoorGenK20
namespace Go.Proofs
set_option maxHeartbeats 4000000
set_option maxRecDepth 10000
open Go.Eng Go.Eng.Pure
set_option linter.unusedVariables false
theorem zSv {w0:World} {x:Hp} (hw:Holds w0 x) (ak:(List GAxis)) (b:GEntry) {ah:Value} {u:Value} {q:Value} {z:Value} {aa:Value} (p:Sl (α:=GAxis) x ah ak) (d:Sl (α:=(List Str)) x u b.fKeys) (j:Sl (α:=Str) x q b.fVary) (k:Sl (α:=Str) x z b.fSnapshot) (l:Sl (α:=GField) x aa b.fFields) {r:Bool} (h:zSj ak b=some r) :
  Con Tryz.prog 65 [ah,(agg [u,q,z,(str b.fReason),aa,(str b.fBody),(int b.fRequested),(int b.fReceived)])] w0 x (fun H' v=>v=(boo r)):=by
 refine Con.mk (N:=119) Tryz.func65 rfl rfl kr rfl ?_
 have S:=St.start hw
 refine Ws<|Wg ?_
 refine W.box [u,q,z,(str b.fReason),aa,(str b.fBody),(int b.fRequested),(int b.fReceived)] S rfl rfl ?_
 intro b1 w2 S
 refine A<|We<|Ws<|Ws<|Wg<|M<|Nq p<|Le<|We ?_
 rcases condE h with ⟨a3,h⟩ | ⟨a3,h⟩
 ·refine CT a3<|Ws<|Ws<|Wg<|A<|We<|B h fun a4 b3 h=>WP.cut (fun f w=>match a4 with | .inl _=>∃ (H8:Hp),f 3=(ptr b1 0)∧Sl (α:=(List Str)) H8 u b.fKeys∧Sl (α:=Str) H8 q b.fVary∧Sl (α:=Str) H8 z b.fSnapshot∧Sl (α:=GField) H8 aa b.fFields∧St w0 x w H8 [.box b1 36 [u,q,z,(str b.fReason),aa,(str b.fBody),(int b.fRequested),(int b.fReceived)]] | .inr _=>False) ?_ ?_
  ·refine Wb ?_
   refine WP.loopM (zSd b) (fun s f w=>match s with | bq=>∃ (H4:Hp),f 3=(ptr b1 0)∧f 5=(int bq)∧Sl (α:=(List Str)) H4 u b.fKeys∧Sl (α:=Str) H4 q b.fVary∧Sl (α:=Str) H4 z b.fSnapshot∧Sl (α:=GField) H4 aa b.fFields∧St w0 x w H4 [.box b1 36 [u,q,z,(str b.fReason),aa,(str b.fBody),(int b.fRequested),(int b.fReceived)]]) 1 a4 b3 ?_ ?_
   ·exact ⟨x,rfl,rfl,d,j,k,l,S⟩
   intro bq f w hI dc ae br
   obtain ⟨H4,h5,h7,d,j,k,l,S⟩:=hI
   refine Ws<|Ws<|Wg<|M' h7<|Fb' h5 ?_
   refine Lo 0 S<|Nq j<|La<|We ?_
   rcases condE ae with ⟨a5,ae⟩ | ⟨a5,ae⟩
   ·refine CT a5<|Wk<|Ws<|Wb<|Ws<|WP.quiet S kr kr<|QFb' h5 ?_
    refine WQ.val (fun w hw=>by obtain ⟨_,hq,S⟩:=hw; exact (R.loadB (i:=0) (v:=q) S rfl rfl lay34 rfl))<|QM' h7<|QLh<|B ae fun b4 b5 ae=>WQ.idx (α:=Str) j rfl rfl el34 b5 ?_
    rintro dd _ b6 rfl
    refine WQ.val (fun w hw=>by obtain ⟨_,hq,S⟩:=hw; exact (R.loadH (v:=str b4) S rfl (At.mono b6 hq (by simp)) lay9 rfl))<|QFb' h5 ?_
    refine WQ.val (fun w hw=>by obtain ⟨_,hq,S⟩:=hw; exact (R.loadB (i:=0) (v:=q) S rfl rfl lay34 rfl))<|QM' h7<|B ae fun b7 b8 ae=>WQ.idx (α:=Str) j rfl rfl el34 b8 ?_
    rintro de _ b9 rfl
    refine WQ.val (fun w hw=>by obtain ⟨_,hq,S⟩:=hw; exact (R.loadH (v:=str b7) S rfl (At.mono b9 hq (by simp)) lay9 rfl))<|QNf<|WQ.nil ?_
    intro df ca a1 S
    have j:=Sl.mono j a1
    have d:=Sl.mono d a1
    have k:=Sl.mono k a1
    have l:=Sl.mono l a1
    rcases condE ae with ⟨a6,ae⟩ | ⟨a6,ae⟩
    ·refine CT a6<|Ws<|Wg<|A<|We ?_
     obtain rfl:=oi ae
     obtain rfl:=br
     obtain rfl:=oi h
     refine WP.ret (Out.one rfl S rfl ?_)
     exact rfl
    refine CF a6<|Wk<|Wg<|M' h7<|Lg<|A<|We ?_
    obtain rfl:=oi ae
    exact ⟨rfl,⟨ca,h5,rfl,d,j,k,l,S⟩⟩
   refine CF a5<|Wx ?_
   obtain rfl:=oi ae
   obtain rfl:=br
   exact ⟨H4,h5,d,j,k,l,S⟩
  intro f w hM
  rcases a4 with _ | e
  ·obtain ⟨H8,h9,d,j,k,l,S⟩:=hM
   refine Ws<|Wg<|Fb' h9 ?_
   refine Lo 0 S<|Nq d<|Le<|M ?_
   refine WL.grp 8 [37,38,39,40,41,42,43] 44 (boo (((b.fKeys.length:Int)==0)&&((b.fVary.length:Int)==(b.fSnapshot.length:Int)))) ?_ ?_
   ·rcases boolE ((b.fKeys.length:Int)==0) with t | t
    ·refine Gy t<|Fb' h9<|Gy t ?_
     refine Lo 0 S<|Gy t<|Nq j<|Gy t<|Fb' h9<|Gy t ?_
     refine Lo 0 S<|Gy t<|Nq k ?_
     refine Gy t<|Le<|Pt t ?_
     exact We ⟨(andT t),ag,rfl⟩
    refine Gn t<|Gn t<|Gn t<|Gn t<|Gn t<|Gn t<|Gn t<|Pf t ?_
    exact We ⟨(andF t),ag,rfl⟩
   intro us
   refine A<|We ?_
   obtain rfl:=oi h
   refine WP.ret (Out.one rfl S rfl ?_)
   exact rfl
  exact hM.elim
 refine CF a3<|Wk<|Ws<|Ws<|Wg<|Fb ?_
 refine Lo 0 S<|Nq d<|La<|M ?_
 refine WL.grp 5 [50,51,52,53] 54 (boo ((decide ((b.fKeys.length:Int)<1))||(decide (64<(b.fKeys.length:Int))))) ?_ ?_
 ·rcases boolE (decide ((b.fKeys.length:Int)<1)) with af | af
  ·refine Gn af<|Gn af<|Gn af<|Gn af<|Pt af ?_
   exact We ⟨(orT af),ag,rfl⟩
  refine Gy af<|Fb<|Gy af ?_
  refine Lo 0 S<|Gy af<|Nq d<|Gy af<|Lc<|Pf af ?_
  exact We ⟨(orF af),ag,rfl⟩
 intro us
 refine M ?_
 refine WL.grp 9 [56,57,58,59,60,61,62,63] 64 (boo (((decide ((b.fKeys.length:Int)<1))||(decide (64<(b.fKeys.length:Int))))||(decide (0<(wr ((b.fVary.length:Int)+(b.fSnapshot.length:Int))))))) ?_ ?_
 ·rcases boolE ((decide ((b.fKeys.length:Int)<1))||(decide (64<(b.fKeys.length:Int)))) with o | o
  ·refine Gn o<|Gn o<|Gn o<|Gn o<|Gn o<|Gn o<|Gn o<|Gn o<|Pt o ?_
   exact We ⟨(orT o),ag,rfl⟩
  refine Gy o<|Fb<|Gy o ?_
  refine Lo 0 S<|Gy o<|Nq j<|Gy o<|Fb<|Gy o ?_
  refine Lo 0 S<|Gy o<|Nq k ?_
  refine Gy o<|Lg<|Gy o<|Lc<|Pf o ?_
  exact We ⟨(orF o),ag,rfl⟩
 intro us
 refine We ?_
 rcases condE h with ⟨a8,h⟩ | ⟨a8,h⟩
 ·refine CT a8<|Ws<|Wg<|A<|We ?_
  obtain rfl:=oi h
  refine WP.ret (Out.one rfl S rfl ?_)
  exact rfl
 refine CF a8<|Wk<|Ws<|Ws<|Wg<|A<|We<|B h fun a9 cb h=>WP.cut (fun f w=>match a9 with | .inl _=>∃ (bs:Hp),St w0 x w bs [] | .inr _=>False) ?_ ?_
 ·refine Wb ?_
  refine WP.loopM (zSZ ak b) (fun s f w=>match s with | ao=>∃ (al:Hp),f 0=ah∧f 3=(ptr b1 0)∧f 6=(int ao)∧Sl (α:=GAxis) al ah ak∧Sl (α:=(List Str)) al u b.fKeys∧Sl (α:=Str) al q b.fVary∧Sl (α:=Str) al z b.fSnapshot∧Sl (α:=GField) al aa b.fFields∧St w0 x w al [.box b1 36 [u,q,z,(str b.fReason),aa,(str b.fBody),(int b.fRequested),(int b.fReceived)]]) 0 a9 cb ?_ ?_
  ·exact ⟨x,rfl,rfl,rfl,p,d,j,k,l,S⟩
  intro ao f w hI dh ac ba
  obtain ⟨al,bt,bb,bc,p,d,j,k,l,S⟩:=hI
  refine Ws<|Ws<|Wg<|M' bc<|Fb' bb ?_
  refine Lo 0 S<|Nq d<|La<|We ?_
  rcases condE ac with ⟨bd,ac⟩ | ⟨bd,ac⟩
  ·refine CT bd<|Wk<|Ws<|Wb<|Ws<|Ws<|Wg<|Fb' bb ?_
   refine Lo 0 S<|M' bc<|B ac fun di cc ac=>W.idx (α:=(List Str)) d rfl rfl el33 cc ?_
   rintro dj _ cd ⟨dk,rfl,ce⟩
   refine Lq S cd<|Nq ce<|M' bt<|Nq p<|Lf<|We ?_
   rcases condE ac with ⟨be,ac⟩ | ⟨be,ac⟩
   ·refine CT be<|Ws<|Wg<|A<|We ?_
    obtain rfl:=oi ac
    obtain rfl:=ba
    obtain rfl:=oi h
    refine WP.ret (Out.one rfl S rfl ?_)
    exact rfl
   refine CF be<|Wk<|Ws<|Wg<|A<|We<|B ac fun bf cf ac=>WP.cut (fun f w=>match bf with | .inl _=>∃ (ap:Hp),f 0=ah∧f 3=(ptr b1 0)∧f 6=(int ao)∧Sl (α:=GAxis) ap ah ak∧Sl (α:=(List Str)) ap u b.fKeys∧Sl (α:=Str) ap q b.fVary∧Sl (α:=Str) ap z b.fSnapshot∧Sl (α:=GField) ap aa b.fFields∧St w0 x w ap [.box b1 36 [u,q,z,(str b.fReason),aa,(str b.fBody),(int b.fRequested),(int b.fReceived)]] | .inr _=>False) ?_ ?_
   ·refine Wb ?_
    refine WP.loopM (zSX ak b ao) (fun s f w=>match s with | ax=>∃ (am:Hp),f 0=ah∧f 3=(ptr b1 0)∧f 6=(int ao)∧f 7=(int ax)∧Sl (α:=GAxis) am ah ak∧Sl (α:=(List Str)) am u b.fKeys∧Sl (α:=Str) am q b.fVary∧Sl (α:=Str) am z b.fSnapshot∧Sl (α:=GField) am aa b.fFields∧St w0 x w am [.box b1 36 [u,q,z,(str b.fReason),aa,(str b.fBody),(int b.fRequested),(int b.fReceived)]]) 0 bf cf ?_ ?_
    ·exact ⟨al,bt,bb,bc,rfl,p,d,j,k,l,S⟩
    intro ax f w hI dl ai bu
    obtain ⟨am,bg,bv,bw,bx,p,d,j,k,l,S⟩:=hI
    refine Ws<|Ws<|Wg<|M' bx<|M' bg<|Nq p<|La<|We ?_
    rcases condE ai with ⟨bh,ai⟩ | ⟨bh,ai⟩
    ·refine CT bh<|Wk<|Ws<|Wb<|Ws<|Wg<|A<|We<|Ws<|Ws<|Wg<|A ?_
     refine We<|B ai fun bz cg ai=>WP.cut (fun f w=>∃ (aq:Hp),f 0=ah∧f 3=(ptr b1 0)∧f 6=(int ao)∧f 7=(int ax)∧f 8=(boo bz)∧Sl (α:=GAxis) aq ah ak∧Sl (α:=(List Str)) aq u b.fKeys∧Sl (α:=Str) aq q b.fVary∧Sl (α:=Str) aq z b.fSnapshot∧Sl (α:=GField) aq aa b.fFields∧St w0 x w aq [.box b1 36 [u,q,z,(str b.fReason),aa,(str b.fBody),(int b.fRequested),(int b.fReceived)]]) ?_ ?_
     ·refine Wb ?_
      refine WP.loopM (zSY ak b ao ax) (fun s f w=>match s with | (bi,b0)=>∃ (ar:Hp),f 0=ah∧f 3=(ptr b1 0)∧f 6=(int ao)∧f 7=(int ax)∧f 8=(boo bi)∧f 9=(int b0)∧Sl (α:=GAxis) ar ah ak∧Sl (α:=(List Str)) ar u b.fKeys∧Sl (α:=Str) ar q b.fVary∧Sl (α:=Str) ar z b.fSnapshot∧Sl (α:=GField) ar aa b.fFields∧St w0 x w ar [.box b1 36 [u,q,z,(str b.fReason),aa,(str b.fBody),(int b.fRequested),(int b.fReceived)]]) (false,0) bz cg ?_ ?_
      ·exact ⟨am,bg,bv,bw,bx,rfl,rfl,p,d,j,k,l,S⟩
      intro s f w hI dm an ch
      obtain ⟨bi,b0⟩:=s
      obtain ⟨ar,a2,bj,bk,ay,b2,bn,p,d,j,k,l,S⟩:=hI
      refine Ws<|Ws<|Wg<|M' bn<|M' a2<|M' ay<|B an fun dn ci an=>W.idx (α:=GAxis) p rfl rfl el22 ci ?_
      rintro dp _ cj ⟨dq,rfl,ck⟩
      refine Fc ?_
      have cl:=At.add cj 1 (by simp)
      refine Lq S cl<|Nq ck<|La<|We ?_
      rcases condE an with ⟨bo,an⟩ | ⟨bo,an⟩
      ·refine CT bo<|Wk<|Ws<|Wb<|WP.quiet S kr kr<|QM' b2<|QM<|B an fun cm ad an=>WQ.grp 18 [99,100,101,102,103,104,105,106,107,108,109,110,111,112,113,114,115] 116 (boo cm) ?_ ?_
       ·rcases boolE bi with c | c
        ·replace ad:=condT ad c
         refine QGn c<|QGn c<|QGn c<|QGn c<|QGn c<|QGn c<|QGn c<|QGn c<|QGn c<|QGn c<|QGn c<|QGn c ?_
         refine QGn c<|QGn c<|QGn c<|QGn c<|QGn c<|QPt c ?_
         exact WQ.nil ⟨(congrArg boo (oi ad)),ag⟩
        replace ad:=condF ad c
        refine QGy c<|QM' a2<|QGy c<|QM' ay<|QGy c<|B ad fun dr cn ad=>WQ.idx (α:=GAxis) p rfl rfl el22 cn ?_
        rintro ds _ co ⟨cp,rfl,cq⟩
        refine QGy c<|QFc ?_
        have cr:=At.add co 1 (by simp)
        refine QGy c ?_
        refine WQ.val (fun w hw=>by obtain ⟨_,hq,S⟩:=hw; exact (R.loadH (v:=cp) S rfl (At.mono cr hq (by simp)) lay34 rfl))<|QGy c<|QM' bn<|QGy c<|B ad fun cs ct ad=>WQ.idx (α:=Str) cq rfl rfl el34 ct ?_
        rintro dt _ cu rfl
        refine QGy c ?_
        refine WQ.val (fun w hw=>by obtain ⟨_,hq,S⟩:=hw; exact (R.loadH (v:=str cs) S rfl (At.mono cu hq (by simp)) lay9 rfl))<|QGy c<|QFb' bj<|QGy c ?_
        refine WQ.val (fun w hw=>by obtain ⟨_,hq,S⟩:=hw; exact (R.loadB (i:=0) (v:=u) S rfl rfl lay33 rfl))<|QGy c<|QM' bk<|QGy c<|B ad fun du cv ad=>WQ.idx (α:=(List Str)) d rfl rfl el33 cv ?_
        rintro dw _ cw ⟨cx,rfl,cy⟩
        refine QGy c ?_
        refine WQ.val (fun w hw=>by obtain ⟨_,hq,S⟩:=hw; exact (R.loadH (v:=cx) S rfl (At.mono cw hq (by simp)) lay34 rfl))<|QGy c<|QM' ay<|QGy c<|B ad fun cz c0 ad=>WQ.idx (α:=Str) cy rfl rfl el34 c0 ?_
        rintro dx _ c1 rfl
        refine QGy c ?_
        refine WQ.val (fun w hw=>by obtain ⟨_,hq,S⟩:=hw; exact (R.loadH (v:=str cz) S rfl (At.mono c1 hq (by simp)) lay9 rfl))<|QGy c<|QNa<|QPf c ?_
        exact WQ.nil ⟨(congrArg boo (oi ad)),ag⟩
       intro us
       refine QA<|WQ.nil ?_
       intro dy c2 az S
       have p:=Sl.mono p az
       have d:=Sl.mono d az
       have j:=Sl.mono j az
       have k:=Sl.mono k az
       have l:=Sl.mono l az
       refine Wg<|M' bn<|Lg<|A<|We ?_
       obtain rfl:=oi an
       exact ⟨rfl,⟨c2,a2,bj,bk,ay,rfl,rfl,p,d,j,k,l,S⟩⟩
      refine CF bo<|Wx ?_
      obtain rfl:=oi an
      obtain rfl:=ch
      exact ⟨ar,a2,bj,bk,ay,b2,p,d,j,k,l,S⟩
     rintro f w ⟨aq,c3,c4,c5,c6,c7,p,d,j,k,l,S⟩
     refine Ws<|Wg<|M' c7<|No<|We ?_
     rcases condE ai with ⟨bp,ai⟩ | ⟨bp,ai⟩
     ·refine CT bp<|Ws<|Wg<|A<|We ?_
      obtain rfl:=oi ai
      obtain rfl:=bu
      obtain rfl:=oi ac
      obtain rfl:=ba
      obtain rfl:=oi h
      refine WP.ret (Out.one rfl S rfl ?_)
      exact rfl
     refine CF bp<|Wk<|Wg<|M' c6<|Lg<|A<|We ?_
     obtain rfl:=oi ai
     exact ⟨rfl,⟨aq,c3,c4,c5,rfl,p,d,j,k,l,S⟩⟩
    refine CF bh<|Wx ?_
    obtain rfl:=oi ai
    obtain rfl:=bu
    exact ⟨am,bg,bv,bw,p,d,j,k,l,S⟩
   intro f w hM
   rcases bf with _ | e
   ·obtain ⟨ap,c8,c9,da,p,d,j,k,l,S⟩:=hM
    refine Wg<|M' da<|Lg<|A<|We ?_
    obtain rfl:=oi ac
    exact ⟨rfl,⟨ap,c8,c9,rfl,p,d,j,k,l,S⟩⟩
   exact hM.elim
  refine CF bd<|Wx ?_
  obtain rfl:=oi ac
  obtain rfl:=ba
  exact ⟨al,(S.drop _ (.cons _ .slnil))⟩
 intro f w hM
 rcases a9 with _ | e
 ·obtain ⟨bs,S⟩:=hM
  refine Ws<|Wg<|A<|We ?_
  obtain rfl:=oi h
  refine WP.ret (Out.one rfl S rfl ?_)
  exact rfl
 exact hM.elim
theorem zS0 {x:World} {o:Hp} (hw:Holds x o) (j:GTable) (ao:Int) {q:Value} {p:Value} (b:Sl (α:=GAxis) o q j.fAxes) (c:Sl (α:=GEntry) o p j.fEntries) {r:Bool} (h:zSt j ao=some r) :
  Con Tryz.prog 28 [(agg [q,p]),(int ao)] x o (fun H' v=>v=(boo r)):=by
 refine Con.mk (N:=64) Tryz.func28 rfl rfl kr rfl ?_
 have S:=St.start hw
 refine Ws<|Wg ?_
 refine W.box [q,p] S rfl rfl ?_
 intro z w2 S
 refine A<|We<|Ws<|Ws<|Wg<|Fb ?_
 refine Lo 0 S<|Nq c<|M<|Lc<|M<|B h fun a8 aa h=>WL.grpw 11 [13,14,15,16,17,18,19,20,21,22] 23 (boo a8) (fun w=>∃ H':Hp,o.le H'∧St x o w H' [.box z 25 [q,p]]) ?_ ?_
 ·rcases boolE (decide (ao<(j.fEntries.length:Int))) with d | d
  ·replace aa:=condT aa d
   refine Gn d<|Gn d<|Gn d<|Gn d<|Gn d<|WL.gund rfl rfl<|WL.gund rfl rfl<|WL.gund rfl rfl<|WL.gund rfl rfl<|Gn d<|Pt d ?_
   exact We ⟨(congrArg boo (oi aa)),ag,⟨o,(Hp.le.refl _),S⟩⟩
  replace aa:=condF aa d
  refine Gy d<|Fb<|Gy d ?_
  refine Lo 0 S<|Gy d<|Nq b<|Gy d<|Lc<|Gy d<|M<|B aa fun a9 ab aa=>WL.grpw 5 [18,19,20,21] 22 (boo a9) (fun w=>∃ H':Hp,o.le H'∧St x o w H' [.box z 25 [q,p]]) ?_ ?_
  ·rcases boolE (decide (0<(j.fAxes.length:Int))) with t | t
   ·replace ab:=condT ab t
    refine Gy t<|Fb<|Gy t ?_
    refine Lo 0 S<|Gy t<|B ab fun r7 ba ab=>W.call S rfl (zKf S.holds j.fAxes b ba) ?_
    rintro v8 w9 bb ap S rfl
    have b:=Sl.mono b ap
    have c:=Sl.mono c ap
    refine Gy t<|No<|Gy d<|Pt t ?_
    exact We ⟨(congrArg boo (oi ab)),ag,⟨bb,ap,S⟩⟩
   replace ab:=condF ab t
   refine Gn t<|Gn t<|Gn t<|Gn t<|Gy d<|Pf t ?_
   exact We ⟨(congrArg boo (oi ab)),ag,⟨o,(Hp.le.refl _),S⟩⟩
  intro us cq ⟨bc,aq,S⟩
  have b:=Sl.mono b aq
  have c:=Sl.mono c aq
  refine Pf d ?_
  exact We ⟨(congrArg boo (oi aa)),ag,⟨bc,aq,S⟩⟩
 intro us cr ⟨bd,a3,S⟩
 have b:=Sl.mono b a3
 have c:=Sl.mono c a3
 refine We ?_
 rcases condE h with ⟨ar,h⟩ | ⟨ar,h⟩
 ·refine CT ar<|Ws<|Wg<|A<|We ?_
  obtain rfl:=oi h
  refine WP.ret (Out.one rfl S rfl ?_)
  exact rfl
 refine CF ar<|Wk<|Ws<|Ws<|Wg<|A<|We<|B h fun au be h=>WP.cut (fun f w=>match au with | .inl _=>∃ (a4:Hp),St x o w a4 [] | .inr _=>False) ?_ ?_
 ·refine Wb ?_
  refine WP.loopM (zSg j) (fun s f w=>match s with | ac=>∃ (ae:Hp),f 2=(ptr z 0)∧f 5=(int ac)∧Sl (α:=GAxis) ae q j.fAxes∧Sl (α:=GEntry) ae p j.fEntries∧St x o w ae [.box z 25 [q,p]]) 0 au be ?_ ?_
  ·exact ⟨bd,rfl,rfl,b,c,S⟩
  intro ac f w hI cs k av
  obtain ⟨ae,al,aw,b,c,S⟩:=hI
  refine Ws<|Ws<|Wg<|M' aw<|Fb' al ?_
  refine Lo 0 S<|Nq c<|La<|We ?_
  rcases condE k with ⟨ax,k⟩ | ⟨ax,k⟩
  ·refine CT ax<|Wk<|Ws<|Wb<|Ws<|Ws<|WP.quiet S kr kr<|QFb' al ?_
   refine WQ.val (fun w hw=>by obtain ⟨_,hq,S⟩:=hw; exact (R.loadB (i:=0) (v:=q) S rfl rfl lay22 rfl))<|QFb' al ?_
   refine WQ.val (fun w hw=>by obtain ⟨_,hq,S⟩:=hw; exact (R.loadB (i:=0) (v:=p) S rfl rfl lay23 rfl))<|QM' aw<|B k fun af bf k=>WQ.idx (α:=GEntry) c rfl rfl el23 bf ?_
   rintro ct _ bg ⟨bh,bi,bj,bk,rfl,bn,bo,bp,bq⟩
   refine WQ.val (fun w hw=>by obtain ⟨_,hq,S⟩:=hw; exact (R.loadHN (vs:=[bh,bi,bj,(str af.fReason),bk,(str af.fBody),(int af.fRequested),(int af.fReceived)]) S rfl (At.mono bg hq (by simp)) lay36 rfl rfl))<|B k fun br bs k=>WQ.call (v:=boo br) rfl (fun w H' hq S=>zSv S.holds j.fAxes af (Sl.mono b hq) (Sl.mono bn hq) (Sl.mono bo hq) (Sl.mono bp hq) (Sl.mono bq hq) bs)<|QNo<|WQ.nil ?_
   intro cu bt a5 S
   have c:=Sl.mono c a5
   have b:=Sl.mono b a5
   rcases condE k with ⟨ay,k⟩ | ⟨ay,k⟩
   ·refine CT ay<|Ws<|Wg<|A<|We ?_
    obtain rfl:=oi k
    obtain rfl:=av
    obtain rfl:=oi h
    refine WP.ret (Out.one rfl S rfl ?_)
    exact rfl
   refine CF ay<|Wk<|Ws<|Wg<|A<|We<|B k fun az bu k=>WP.cut (fun f w=>match az with | .inl _=>∃ (ah:Hp),f 2=(ptr z 0)∧f 5=(int ac)∧Sl (α:=GAxis) ah q j.fAxes∧Sl (α:=GEntry) ah p j.fEntries∧St x o w ah [.box z 25 [q,p]] | .inr _=>False) ?_ ?_
   ·refine Wb ?_
    refine WP.loopM (zSb j ac) (fun s f w=>match s with | am=>∃ (ai:Hp),f 2=(ptr z 0)∧f 5=(int ac)∧f 6=(int am)∧Sl (α:=GAxis) ai q j.fAxes∧Sl (α:=GEntry) ai p j.fEntries∧St x o w ai [.box z 25 [q,p]]) 0 az bu ?_ ?_
    ·exact ⟨bt,al,aw,rfl,b,c,S⟩
    intro am f w hI cv l a6
    obtain ⟨ai,ad,an,a0,b,c,S⟩:=hI
    refine Ws<|Ws<|Wg<|M' a0<|M' an<|La<|M ?_
    refine WL.grp 5 [44,45,46,47] 48 (boo ((decide (am<ac))&&(decide (0<(j.fAxes.length:Int))))) ?_ ?_
    ·rcases boolE (decide (am<ac)) with u | u
     ·refine Gy u<|Fb' ad<|Gy u ?_
      refine Lo 0 S<|Gy u<|Nq b<|Gy u<|Lc<|Pt u ?_
      exact We ⟨(andT u),ag,rfl⟩
     refine Gn u<|Gn u<|Gn u<|Gn u<|Pf u ?_
     exact We ⟨(andF u),ag,rfl⟩
    intro us
    refine We ?_
    rcases condE l with ⟨a1,l⟩ | ⟨a1,l⟩
    ·refine CT a1<|Wk<|Ws<|Wb<|Ws<|WP.quiet S kr kr<|QFb' ad ?_
     refine WQ.val (fun w hw=>by obtain ⟨_,hq,S⟩:=hw; exact (R.loadB (i:=0) (v:=q) S rfl rfl lay22 rfl))<|QFb' ad ?_
     refine WQ.val (fun w hw=>by obtain ⟨_,hq,S⟩:=hw; exact (R.loadB (i:=0) (v:=p) S rfl rfl lay23 rfl))<|QM' an<|B l fun aj bv l=>WQ.idx (α:=GEntry) c rfl rfl el23 bv ?_
     rintro cw _ bw ⟨bx,bz,b0,b2,rfl,b3,b4,b5,b6⟩
     refine WQ.val (fun w hw=>by obtain ⟨_,hq,S⟩:=hw; exact (R.loadHN (vs:=[bx,bz,b0,(str aj.fReason),b2,(str aj.fBody),(int aj.fRequested),(int aj.fReceived)]) S rfl (At.mono bw hq (by simp)) lay36 rfl rfl))<|QFb' ad ?_
     refine WQ.val (fun w hw=>by obtain ⟨_,hq,S⟩:=hw; exact (R.loadB (i:=0) (v:=p) S rfl rfl lay23 rfl))<|QM' a0<|B l fun ak b7 l=>WQ.idx (α:=GEntry) c rfl rfl el23 b7 ?_
     rintro cx _ b8 ⟨b9,ca,cb,cc,rfl,cd,ce,cf,cg⟩
     refine WQ.val (fun w hw=>by obtain ⟨_,hq,S⟩:=hw; exact (R.loadHN (vs:=[b9,ca,cb,(str ak.fReason),cc,(str ak.fBody),(int ak.fRequested),(int ak.fReceived)]) S rfl (At.mono b8 hq (by simp)) lay36 rfl rfl))<|B l fun ch ci l=>WQ.call (v:=boo ch) rfl (fun w H' hq S=>zSx S.holds j.fAxes aj ak (Sl.mono b hq) (Sl.mono b3 hq) (Sl.mono b4 hq) (Sl.mono b5 hq) (Sl.mono b6 hq) (Sl.mono cd hq) (Sl.mono ce hq) (Sl.mono cf hq) (Sl.mono cg hq) ci)<|WQ.nil ?_
     intro cy cj a7 S
     have b:=Sl.mono b a7
     have c:=Sl.mono c a7
     rcases condE l with ⟨a2,l⟩ | ⟨a2,l⟩
     ·refine CT a2<|Ws<|Wg<|A<|We ?_
      obtain rfl:=oi l
      obtain rfl:=a6
      obtain rfl:=oi k
      obtain rfl:=av
      obtain rfl:=oi h
      refine WP.ret (Out.one rfl S rfl ?_)
      exact rfl
     refine CF a2<|Wk<|Wg<|M' a0<|Lg<|A<|We ?_
     obtain rfl:=oi l
     exact ⟨rfl,⟨cj,ad,an,rfl,b,c,S⟩⟩
    refine CF a1<|Wx ?_
    obtain rfl:=oi l
    obtain rfl:=a6
    exact ⟨ai,ad,an,b,c,S⟩
   intro f w hM
   rcases az with _ | e
   ·obtain ⟨ah,ck,cl,b,c,S⟩:=hM
    refine Wg<|M' cl<|Lg<|A<|We ?_
    obtain rfl:=oi k
    exact ⟨rfl,⟨ah,ck,rfl,b,c,S⟩⟩
   exact hM.elim
  refine CF ax<|Wx ?_
  obtain rfl:=oi k
  obtain rfl:=av
  exact ⟨ae,(S.drop _ (.cons _ .slnil))⟩
 intro f w hM
 rcases au with _ | e
 ·obtain ⟨a4,S⟩:=hM
  refine Ws<|Wg<|A<|We ?_
  obtain rfl:=oi h
  refine WP.ret (Out.one rfl S rfl ?_)
  exact rfl
 exact hM.elim
theorem zJv {l:World} {j:Hp} (hw:Holds l j) (b:GRequest) {k:Value} (p:Sl (α:=GField) j k b.fFields) {r:Bool} (h:zF1 b=some r) :
  Con Tryz.prog 29 [(agg [(str b.fMethod),(str b.fTarget),(int b.fMinor),k,(str b.fBody)])] l j (fun H' v=>v=(boo r)):=by
 refine Con.mk (N:=24) Tryz.func29 rfl rfl kr rfl ?_
 have S:=St.start hw
 refine Ws<|Wg ?_
 refine W.box [(str b.fMethod),(str b.fTarget),(int b.fMinor),k,(str b.fBody)] S rfl rfl ?_
 intro q z S
 refine A<|We<|Ws<|Wg<|Fb ?_
 refine Lo 0 S<|Ns<|Lb<|M ?_
 refine WL.grp 5 [8,9,10,11] 12 (boo ((decide ((b.fMethod.length:Int)≤100))&&(decide ((b.fTarget.length:Int)≤2100)))) ?_ ?_
 ·rcases boolE (decide ((b.fMethod.length:Int)≤100)) with c | c
  ·refine Gy c<|Fb<|Gy c ?_
   refine Lo 0 S<|Gy c<|Ns<|Gy c<|Lb<|Pt c ?_
   exact We ⟨(andT c),ag,rfl⟩
  refine Gn c<|Gn c<|Gn c<|Gn c<|Pf c ?_
  exact We ⟨(andF c),ag,rfl⟩
 intro us
 refine M<|B h fun o i h=>WL.grpw 4 [14,15,16] 17 (boo o) (fun w=>∃ H':Hp,j.le H'∧St l j w H' [.box q 52 [(str b.fMethod),(str b.fTarget),(int b.fMinor),k,(str b.fBody)]]) ?_ ?_
 ·rcases boolE ((decide ((b.fMethod.length:Int)≤100))&&(decide ((b.fTarget.length:Int)≤2100))) with f | f
  ·replace i:=condT i f
   refine Gy f<|Fb<|Gy f ?_
   refine Lo 0 S<|Gy f<|B i fun r7 t i=>W.call S rfl (zGE S.holds b.fFields p t) ?_
   rintro v8 w9 u x S rfl
   refine Pt f ?_
   exact We ⟨(congrArg boo (oi i)),ag,⟨u,x,S⟩⟩
  replace i:=condF i f
  refine Gn f<|Gn f<|Gn f<|Pf f ?_
  exact We ⟨(congrArg boo (oi i)),ag,⟨j,(Hp.le.refl _),S⟩⟩
 intro us ad ⟨ae,af,S⟩
 refine M ?_
 refine WL.grp 5 [19,20,21,22] 23 (boo (o&&(decide ((b.fBody.length:Int)≤2000)))) ?_ ?_
 ·rcases boolE o with d | d
  ·refine Gy d<|Fb<|Gy d ?_
   refine Lo 0 S<|Gy d<|Ns<|Gy d<|Lb<|Pt d ?_
   exact We ⟨(andT d),ag,rfl⟩
  refine Gn d<|Gn d<|Gn d<|Gn d<|Pf d ?_
  exact We ⟨(andF d),ag,rfl⟩
 intro us
 refine A<|We ?_
 obtain rfl:=oi h
 refine WP.ret (Out.one rfl S rfl ?_)
 exact rfl
theorem zJV {k:World} {i:Hp} (hw:Holds k i) (b:GResponse) {j:Value} (o:Sl (α:=GField) i j b.fFields) {r:Bool} (h:zFR b=some r) :
  Con Tryz.prog 30 [(agg [(int b.fMinor),(int b.fStatus),(str b.fReason),j,(str b.fBody)])] k i (fun H' v=>v=(boo r)):=by
 refine Con.mk (N:=18) Tryz.func30 rfl rfl kr rfl ?_
 have S:=St.start hw
 refine Ws<|Wg ?_
 refine W.box [(int b.fMinor),(int b.fStatus),(str b.fReason),j,(str b.fBody)] S rfl rfl ?_
 intro p x S
 refine A<|We<|Ws<|Wg<|Fb ?_
 refine Lo 0 S<|Ns<|Lb<|M<|B h fun l f h=>WL.grpw 4 [8,9,10] 11 (boo l) (fun w=>∃ H':Hp,i.le H'∧St k i w H' [.box p 54 [(int b.fMinor),(int b.fStatus),(str b.fReason),j,(str b.fBody)]]) ?_ ?_
 ·rcases boolE (decide ((b.fReason.length:Int)≤2100)) with d | d
  ·replace f:=condT f d
   refine Gy d<|Fb<|Gy d ?_
   refine Lo 0 S<|Gy d<|B f fun z q f=>W.call S rfl (zGE S.holds b.fFields o q) ?_
   rintro v6 w7 t u S rfl
   refine Pt d ?_
   exact We ⟨(congrArg boo (oi f)),ag,⟨t,u,S⟩⟩
  replace f:=condF f d
  refine Gn d<|Gn d<|Gn d<|Pf d ?_
  exact We ⟨(congrArg boo (oi f)),ag,⟨i,(Hp.le.refl _),S⟩⟩
 intro us ac ⟨ad,ae,S⟩
 refine M ?_
 refine WL.grp 5 [13,14,15,16] 17 (boo (l&&(decide ((b.fBody.length:Int)≤2000)))) ?_ ?_
 ·rcases boolE l with c | c
  ·refine Gy c<|Fb<|Gy c ?_
   refine Lo 0 S<|Gy c<|Ns<|Gy c<|Lb<|Pt c ?_
   exact We ⟨(andT c),ag,rfl⟩
  refine Gn c<|Gn c<|Gn c<|Gn c<|Pf c ?_
  exact We ⟨(andF c),ag,rfl⟩
 intro us
 refine A<|We ?_
 obtain rfl:=oi h
 refine WP.ret (Out.one rfl S rfl ?_)
 exact rfl
end Go.Proofs
