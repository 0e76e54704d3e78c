/- A part of the proof of laws of the seat: written by program over the translation. -/
import Derived.Test.YtipgfplekgdoiaaGreatDoorEng38
import Derived.Test.YtipgfplekgdoiaaGreatDoorEng32
import Derived.Test.YtipgfplekgdoiaaGreatDoorGenK17
namespace Go.Proofs
set_option maxHeartbeats 4000000
set_option maxRecDepth 10000
open Go.Eng Go.Eng.Pure
set_option linter.unusedVariables false
theorem zS1 {p:World} {k:Hp} (hw:Holds p k) (q:(List GAxis)) (t:(List GAxis)) {u:Value} {x:Value} (i:Sl (α:=GAxis) k u q) (j:Sl (α:=GAxis) k x t) {r:Bool} (h:zSq q t=some r) :
  Con Tryz.prog 33 [u,x] p k (fun H' v=>v=(boo r)):=by
 refine Con.mk (N:=42) Tryz.func33 rfl rfl kr rfl ?_
 have S:=St.start hw
 refine Ws<|Wg<|A<|We<|Ws<|Ws<|Wg<|M<|Nq i<|M<|Nq j<|Lf ?_
 refine We ?_
 rcases condE h with ⟨aa,h⟩ | ⟨aa,h⟩
 ·refine CT aa<|Ws<|Wg<|A<|We ?_
  obtain rfl:=oi h
  refine WP.ret (Out.one rfl S rfl ?_)
  exact rfl
 refine CF aa<|Wk<|Ws<|Ws<|Wg<|A<|We<|B h fun ab am h=>WP.cut (fun f w=>match ab with | .inl _=>∃ (H7:Hp),St p k w H7 [] | .inr _=>False) ?_ ?_
 ·refine Wb ?_
  refine WP.loopM (zSm q t) (fun s f w=>match s with | ah=>∃ (o:Hp),f 0=u∧f 1=x∧f 5=(int ah)∧Sl (α:=GAxis) o u q∧Sl (α:=GAxis) o x t∧St p k w o []) 0 ab am ?_ ?_
  ·exact ⟨k,rfl,rfl,rfl,i,j,S⟩
  intro ah f w hI y8 c ai
  obtain ⟨o,z,h4,l,i,j,S⟩:=hI
  refine Ws<|Ws<|Wg<|M' l<|M' z<|Nq i<|La<|We ?_
  rcases condE c with ⟨ad,c⟩ | ⟨ad,c⟩
  ·refine CT ad<|Wk<|Ws<|Wb<|Ws<|WP.quiet S kr kr<|QM' z<|QM' l<|B c fun aj an c=>WQ.idx (α:=GAxis) i rfl rfl el22 an ?_
   rintro bc _ ao ⟨bd,rfl,be⟩
   refine QFc ?_
   have ap:=At.add ao 0 (by simp)
   refine WQ.val (fun w hw=>by obtain ⟨_,hq,S⟩:=hw; exact (R.loadH (v:=str aj.fName) S rfl (At.mono ap hq (by simp)) lay9 rfl))<|QM' h4<|QM' l<|B c fun ak aq c=>WQ.idx (α:=GAxis) j rfl rfl el22 aq ?_
   rintro bf _ ar ⟨bg,rfl,bh⟩
   refine QFc ?_
   have au:=At.add ar 0 (by simp)
   refine WQ.val (fun w hw=>by obtain ⟨_,hq,S⟩:=hw; exact (R.loadH (v:=str ak.fName) S rfl (At.mono au hq (by simp)) lay9 rfl))<|QNb<|QM<|B c fun av d c=>WQ.grp 13 [29,30,31,32,33,34,35,36,37,38,39,40] 41 (boo av) ?_ ?_
   ·rcases boolE (aj.fName !=ak.fName) with b | b
    ·replace d:=condT d b
     refine QGn b<|QGn b<|QGn b<|QGn b<|QGn b<|QGn b<|QGn b<|QGn b<|QGn b<|QGn b<|QGn b<|QGn b ?_
     refine QPt b ?_
     exact WQ.nil ⟨(congrArg boo (oi d)),ag⟩
    replace d:=condF d b
    refine QGy b<|QM' z<|QGy b<|QM' l<|QGy b<|B d fun aw ax d=>WQ.idx (α:=GAxis) i rfl rfl el22 ax ?_
    rintro bi _ ay ⟨az,rfl,a0⟩
    refine QGy b<|QFc ?_
    have a1:=At.add ay 1 (by simp)
    refine QGy b ?_
    refine WQ.val (fun w hw=>by obtain ⟨_,hq,S⟩:=hw; exact (R.loadH (v:=az) S rfl (At.mono a1 hq (by simp)) lay34 rfl))<|QGy b<|QM' h4<|QGy b<|QM' l<|QGy b<|B d fun a2 a3 d=>WQ.idx (α:=GAxis) j rfl rfl el22 a3 ?_
    rintro bj _ a4 ⟨a5,rfl,a6⟩
    refine QGy b<|QFc ?_
    have a7:=At.add a4 1 (by simp)
    refine QGy b ?_
    refine WQ.val (fun w hw=>by obtain ⟨_,hq,S⟩:=hw; exact (R.loadH (v:=a5) S rfl (At.mono a7 hq (by simp)) lay34 rfl))<|QGy b<|B d fun a8 a9 d=>WQ.call (v:=boo a8) rfl (fun w H' hq S=>zSi S.holds aw.fValues a2.fValues (Sl.mono a0 hq) (Sl.mono a6 hq) a9)<|QGy b<|QNo<|QPf b ?_
    exact WQ.nil ⟨(congrArg boo (oi d)),ag⟩
   intro us
   refine WQ.nil ?_
   intro bk ba al S
   have i:=Sl.mono i al
   have j:=Sl.mono j al
   rcases condE c with ⟨ae,c⟩ | ⟨ae,c⟩
   ·refine CT ae<|Ws<|Wg<|A<|We ?_
    obtain rfl:=oi c
    obtain rfl:=ai
    obtain rfl:=oi h
    refine WP.ret (Out.one rfl S rfl ?_)
    exact rfl
   refine CF ae<|Wk<|Wg<|M' l<|Lg<|A<|We ?_
   obtain rfl:=oi c
   exact ⟨rfl,⟨ba,z,h4,rfl,i,j,S⟩⟩
  refine CF ad<|Wx ?_
  obtain rfl:=oi c
  obtain rfl:=ai
  exact ⟨o,S⟩
 intro f w hM
 rcases ab with _ | e
 ·obtain ⟨H7,S⟩:=hM
  refine Ws<|Wg<|A<|We ?_
  obtain rfl:=oi h
  refine WP.ret (Out.one rfl S rfl ?_)
  exact rfl
 exact hM.elim
theorem zSx {w0:World} {d:Hp} (hw:Holds w0 d) (ar:(List GAxis)) (c:GEntry) (b:GEntry) {au:Value} {ai:Value} {an:Value} {ao:Value} {ap:Value} {aj:Value} {ak:Value} {al:Value} {am:Value} (k:Sl (α:=GAxis) d au ar) (l:Sl (α:=(List Str)) d ai c.fKeys) (t:Sl (α:=Str) d an c.fVary) (u:Sl (α:=Str) d ao c.fSnapshot) (ab:Sl (α:=GField) d ap c.fFields) (x:Sl (α:=(List Str)) d aj b.fKeys) (o:Sl (α:=Str) d ak b.fVary) (p:Sl (α:=Str) d al b.fSnapshot) (z:Sl (α:=GField) d am b.fFields) {r:Bool} (h:zSn ar c b=some r) :
  Con Tryz.prog 52 [au,(agg [ai,an,ao,(str c.fReason),ap,(str c.fBody),(int c.fRequested),(int c.fReceived)]),(agg [aj,ak,al,(str b.fReason),am,(str b.fBody),(int b.fRequested),(int b.fReceived)])] w0 d (fun H' v=>v=(boo r)):=by
 refine Con.mk (N:=38) Tryz.func52 rfl rfl kr rfl ?_
 have S:=St.start hw
 refine Ws<|Wg ?_
 refine W.box [ai,an,ao,(str c.fReason),ap,(str c.fBody),(int c.fRequested),(int c.fReceived)] S rfl rfl ?_
 intro b1 w2 S
 refine W.box [aj,ak,al,(str b.fReason),am,(str b.fBody),(int b.fRequested),(int b.fReceived)] S rfl rfl ?_
 intro b3 w4 S
 refine A<|We<|Ws<|Ws<|Wg<|M<|Nq k<|Le<|We ?_
 rcases condE h with ⟨ax,h⟩ | ⟨ax,h⟩
 ·refine CT ax<|Ws<|Wg<|Fb ?_
  refine Lo 1 S<|Fb ?_
  refine Lo 0 S<|B h fun r6 ba h=>W.call S rfl (zSi S.holds c.fVary b.fVary t o ba) ?_
  rintro v7 w8 H9 ad S rfl
  have k:=Sl.mono k ad
  have l:=Sl.mono l ad
  have t:=Sl.mono t ad
  have u:=Sl.mono u ad
  have ab:=Sl.mono ab ad
  have x:=Sl.mono x ad
  have o:=Sl.mono o ad
  have p:=Sl.mono p ad
  have z:=Sl.mono z ad
  refine M<|B h fun bb ah h=>WL.grpw 6 [17,18,19,20,21] 22 (boo bb) (fun w=>∃ H':Hp,H9.le H'∧St w0 d w H' [.box b3 36 [aj,ak,al,(str b.fReason),am,(str b.fBody),(int b.fRequested),(int b.fReceived)],.box b1 36 [ai,an,ao,(str c.fReason),ap,(str c.fBody),(int c.fRequested),(int c.fReceived)]]) ?_ ?_
  ·rcases boolE r6 with j | j
   ·replace ah:=condT ah j
    refine Gy j<|Fb<|Gy j ?_
    refine Lo 1 S<|Gy j<|Fb<|Gy j ?_
    refine Lo 0 S<|Gy j<|B ah fun bt bc ah=>W.call S rfl (zSi S.holds c.fSnapshot b.fSnapshot u p bc) ?_
    rintro bu bv bd ac S rfl
    have k:=Sl.mono k ac
    have l:=Sl.mono l ac
    have t:=Sl.mono t ac
    have u:=Sl.mono u ac
    have ab:=Sl.mono ab ac
    have x:=Sl.mono x ac
    have o:=Sl.mono o ac
    have p:=Sl.mono p ac
    have z:=Sl.mono z ac
    refine Pt j ?_
    exact We ⟨(congrArg boo (oi ah)),ag,⟨bd,ac,S⟩⟩
   replace ah:=condF ah j
   refine Gn j<|Gn j<|Gn j<|Gn j<|Gn j<|Pf j ?_
   exact We ⟨(congrArg boo (oi ah)),ag,⟨H9,(Hp.le.refl _),S⟩⟩
  intro us bw ⟨bx,ae,S⟩
  have k:=Sl.mono k ae
  have l:=Sl.mono l ae
  have t:=Sl.mono t ae
  have u:=Sl.mono u ae
  have ab:=Sl.mono ab ae
  have x:=Sl.mono x ae
  have o:=Sl.mono o ae
  have p:=Sl.mono p ae
  have z:=Sl.mono z ae
  refine A<|We ?_
  obtain rfl:=oi h
  refine WP.ret (Out.one rfl S rfl ?_)
  exact rfl
 refine CF ax<|Wk<|Ws<|Ws<|Wg<|A<|We<|B h fun ay be h=>WP.cut (fun f w=>match ay with | .inl _=>∃ (a4:Hp),St w0 d w a4 [] | .inr _=>False) ?_ ?_
 ·refine Wb ?_
  refine WP.loopM (zSf ar c b) (fun s f w=>match s with | a5=>∃ (aa:Hp),f 0=au∧f 4=(ptr b1 0)∧f 5=(ptr b3 0)∧f 7=(int a5)∧Sl (α:=GAxis) aa au ar∧Sl (α:=(List Str)) aa aj b.fKeys∧Sl (α:=Str) aa ak b.fVary∧Sl (α:=Str) aa al b.fSnapshot∧Sl (α:=GField) aa am b.fFields∧Sl (α:=(List Str)) aa ai c.fKeys∧Sl (α:=Str) aa an c.fVary∧Sl (α:=Str) aa ao c.fSnapshot∧Sl (α:=GField) aa ap c.fFields∧St w0 d w aa [.box b3 36 [aj,ak,al,(str b.fReason),am,(str b.fBody),(int b.fRequested),(int b.fReceived)],.box b1 36 [ai,an,ao,(str c.fReason),ap,(str c.fBody),(int c.fRequested),(int c.fReceived)]]) 0 ay be ?_ ?_
  ·exact ⟨d,rfl,rfl,rfl,rfl,k,x,o,p,z,l,t,u,ab,S⟩
  intro a5 f w hI bz q a6
  obtain ⟨aa,a7,az,a8,a0,k,x,o,p,z,l,t,u,ab,S⟩:=hI
  refine Ws<|Ws<|Wg<|M' a0<|Fb' az ?_
  refine Lo 1 S<|Nq l<|La<|We ?_
  rcases condE q with ⟨a1,q⟩ | ⟨a1,q⟩
  ·refine CT a1<|Wk<|Ws<|Wb<|Ws<|WP.quiet S kr kr<|QM' a7 ?_
   refine WQ.val (fun w hw=>by obtain ⟨_,hq,S⟩:=hw; exact (R.loadBN (i:=0) (vs:=[aj,ak,al,(str b.fReason),am,(str b.fBody),(int b.fRequested),(int b.fReceived)]) S a8 rfl lay36 rfl rfl))<|QFb' az ?_
   refine WQ.val (fun w hw=>by obtain ⟨_,hq,S⟩:=hw; exact (R.loadB (i:=1) (v:=ai) S rfl rfl lay33 rfl))<|QM' a0<|B q fun bf bg q=>WQ.idx (α:=(List Str)) l rfl rfl el33 bg ?_
   rintro b0 _ bh ⟨bi,rfl,bj⟩
   refine WQ.val (fun w hw=>by obtain ⟨_,hq,S⟩:=hw; exact (R.loadH (v:=bi) S rfl (At.mono bh hq (by simp)) lay34 rfl))<|B q fun bk bn q=>WQ.call (v:=boo bk) rfl (fun w H' hq S=>zS3 S.holds ar b bf (Sl.mono k hq) (Sl.mono x hq) (Sl.mono o hq) (Sl.mono p hq) (Sl.mono z hq) (Sl.mono bj hq) bn)<|WQ.nil ?_
   intro b2 bo af S
   have k:=Sl.mono k af
   have l:=Sl.mono l af
   have x:=Sl.mono x af
   have o:=Sl.mono o af
   have p:=Sl.mono p af
   have z:=Sl.mono z af
   have t:=Sl.mono t af
   have u:=Sl.mono u af
   have ab:=Sl.mono ab af
   rcases condE q with ⟨a2,q⟩ | ⟨a2,q⟩
   ·refine CT a2<|Ws<|Wg<|A<|We ?_
    obtain rfl:=oi q
    obtain rfl:=a6
    obtain rfl:=oi h
    refine WP.ret (Out.one rfl S rfl ?_)
    exact rfl
   refine CF a2<|Wk<|Wg<|M' a0<|Lg<|A<|We ?_
   obtain rfl:=oi q
   exact ⟨rfl,⟨bo,a7,az,a8,rfl,k,x,o,p,z,l,t,u,ab,S⟩⟩
  refine CF a1<|Wx ?_
  obtain rfl:=oi q
  obtain rfl:=a6
  exact ⟨aa,(S.drop _ (.cons _ (.cons _ .slnil)))⟩
 intro f w hM
 rcases ay with _ | e
 ·obtain ⟨a4,S⟩:=hM
  refine Ws<|Wg<|A<|We ?_
  obtain rfl:=oi h
  refine WP.ret (Out.one rfl S rfl ?_)
  exact rfl
 exact hM.elim
end Go.Proofs
