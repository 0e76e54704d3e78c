/- A part of the proof of laws of the seat: written by program over the translation. -/
import Derived.Test.YtipgfplekgdoiaaGreatDoorEng38
import Derived.Test.YtipgfplekgdoiaaGreatDoorEng32
import Derived.Test.YtipgfplekgdoiaaGreatDoorGenK10
namespace Go.Proofs
set_option maxHeartbeats 4000000
set_option maxRecDepth 10000
open Go.Eng Go.Eng.Pure
set_option linter.unusedVariables false
theorem zJa {u:World} {i:Hp} (hw:Holds u i) (j:(List GAxis)) (o:(List Str)) (q:(List Str)) {x:Value} {z:Value} {aa:Value} (d:Sl (α:=GAxis) i x j) (k:Sl (α:=Str) i z o) (l:Sl (α:=Str) i aa q) {r:Bool} (h:zFL j o q=some r) :
  Con Tryz.prog 22 [x,z,aa] u i (fun H' v=>v=(boo r)):=by
 refine Con.mk (N:=41) Tryz.func22 rfl rfl kr rfl ?_
 have S:=St.start hw
 refine Ws<|Wg<|A<|We<|Ws<|Ws<|Wg<|M<|Nq k<|M<|Nq d<|Lf ?_
 refine M ?_
 refine WL.grp 6 [14,15,16,17,18] 19 (boo (((o.length:Int) !=(j.length:Int))||((q.length:Int) !=(j.length:Int)))) ?_ ?_
 ·rcases boolE ((o.length:Int) !=(j.length:Int)) with c | c
  ·refine Gn c<|Gn c<|Gn c<|Gn c<|Gn c<|Pt c ?_
   exact We ⟨(orT c),ag,rfl⟩
  refine Gy c<|M<|Gy c<|Nq l<|Gy c<|M<|Gy c<|Nq d<|Gy c<|Lf<|Pf c ?_
  exact We ⟨(orF c),ag,rfl⟩
 intro us
 refine We ?_
 rcases condE h with ⟨ab,h⟩ | ⟨ab,h⟩
 ·refine CT ab<|Ws<|Wg<|A<|We ?_
  obtain rfl:=oi h
  refine WP.ret (Out.one rfl S rfl ?_)
  exact rfl
 refine CF ab<|Wk<|Ws<|Ws<|Wg<|A<|We<|B h fun ac aq h=>WP.cut (fun f w=>match ac with | .inl _=>∃ (ai:Hp),St u i w ai [] | .inr _=>False) ?_ ?_
 ·refine Wb ?_
  refine WP.loopM (zBs j o q) (fun s f w=>match s with | aj=>∃ (p:Hp),f 0=x∧f 1=z∧f 2=aa∧f 7=(int aj)∧Sl (α:=GAxis) p x j∧Sl (α:=Str) p z o∧Sl (α:=Str) p aa q∧St u i w p []) 0 ac aq ?_ ?_
  ·exact ⟨i,rfl,rfl,rfl,rfl,d,k,l,S⟩
  intro aj f w hI a3 b ak
  obtain ⟨p,h5,h6,h7,t,d,k,l,S⟩:=hI
  refine Ws<|Ws<|Wg<|M' t<|M' h5<|Nq d<|La<|We ?_
  rcases condE b with ⟨ae,b⟩ | ⟨ae,b⟩
  ·refine CT ae<|Wk<|Ws<|Wb<|Ws<|WP.quiet S kr kr<|QM' h5<|QM' t<|B b fun an ar b=>WQ.idx (α:=GAxis) d rfl rfl el22 ar ?_
   rintro a4 _ au ⟨a5,rfl,a6⟩
   refine QFc ?_
   have av:=At.add au 0 (by simp)
   refine WQ.val (fun w hw=>by obtain ⟨_,hq,S⟩:=hw; exact (R.loadH (v:=str an.fName) S rfl (At.mono av hq (by simp)) lay9 rfl))<|QM' h6<|QM' t<|B b fun ao aw b=>WQ.idx (α:=Str) k rfl rfl el34 aw ?_
   rintro a7 _ ax rfl
   refine WQ.val (fun w hw=>by obtain ⟨_,hq,S⟩:=hw; exact (R.loadH (v:=str ao) S rfl (At.mono ax hq (by simp)) lay9 rfl))<|QM' h7<|QM' t<|B b fun ap ay b=>WQ.idx (α:=Str) l rfl rfl el34 ay ?_
   rintro a8 _ az rfl
   refine WQ.val (fun w hw=>by obtain ⟨_,hq,S⟩:=hw; exact (R.loadH (v:=str ap) S rfl (At.mono az hq (by simp)) lay9 rfl))<|B b fun a0 a1 b=>WQ.call (v:=boo a0) rfl (fun w H' hq S=>zIg S.holds an.fName ao ap a1)<|QNo<|WQ.nil ?_
   intro a9 a2 af S
   have d:=Sl.mono d af
   have k:=Sl.mono k af
   have l:=Sl.mono l af
   rcases condE b with ⟨ah,b⟩ | ⟨ah,b⟩
   ·refine CT ah<|Ws<|Wg<|A<|We ?_
    obtain rfl:=oi b
    obtain rfl:=ak
    obtain rfl:=oi h
    refine WP.ret (Out.one rfl S rfl ?_)
    exact rfl
   refine CF ah<|Wk<|Wg<|M' t<|Lg<|A<|We ?_
   obtain rfl:=oi b
   exact ⟨rfl,⟨a2,h5,h6,h7,rfl,d,k,l,S⟩⟩
  refine CF ae<|Wx ?_
  obtain rfl:=oi b
  obtain rfl:=ak
  exact ⟨p,S⟩
 intro f w hM
 rcases ac with _ | e
 ·obtain ⟨ai,S⟩:=hM
  refine Ws<|Wg<|A<|We ?_
  obtain rfl:=oi h
  refine WP.ret (Out.one rfl S rfl ?_)
  exact rfl
 exact hM.elim
theorem zS3 {w0:World} {d:Hp} (hw:Holds w0 d) (p:(List GAxis)) (b:GEntry) (q:(List Str)) {ae:Value} {t:Value} {u:Value} {x:Value} {z:Value} {af:Value} (k:Sl (α:=GAxis) d ae p) (j:Sl (α:=(List Str)) d t b.fKeys) (aa:Sl (α:=Str) d u b.fVary) (ab:Sl (α:=Str) d x b.fSnapshot) (ac:Sl (α:=GField) d z b.fFields) (l:Sl (α:=Str) d af q) {r:Bool} (h:zSw p b q=some r) :
  Con Tryz.prog 40 [ae,(agg [t,u,x,(str b.fReason),z,(str b.fBody),(int b.fRequested),(int b.fReceived)]),af] w0 d (fun H' v=>v=(boo r)):=by
 refine Con.mk (N:=23) Tryz.func40 rfl rfl kr rfl ?_
 have S:=St.start hw
 refine Ws<|Wg ?_
 refine W.box [t,u,x,(str b.fReason),z,(str b.fBody),(int b.fRequested),(int b.fReceived)] S rfl rfl ?_
 intro b1 w2 S
 refine A<|We<|Ws<|Ws<|Wg<|A<|We<|B h fun ah au h=>WP.cut (fun f w=>match ah with | .inl _=>∃ (H9:Hp),St w0 d w H9 [] | .inr _=>False) ?_ ?_
 ·refine Wb ?_
  refine WP.loopM (zSo p b q) (fun s f w=>match s with | ao=>∃ (i:Hp),f 0=ae∧f 2=af∧f 4=(ptr b1 0)∧f 7=(int ao)∧Sl (α:=GAxis) i ae p∧Sl (α:=Str) i af q∧Sl (α:=(List Str)) i t b.fKeys∧Sl (α:=Str) i u b.fVary∧Sl (α:=Str) i x b.fSnapshot∧Sl (α:=GField) i z b.fFields∧St w0 d w i [.box b1 36 [t,u,x,(str b.fReason),z,(str b.fBody),(int b.fRequested),(int b.fReceived)]]) 0 ah au ?_ ?_
  ·exact ⟨d,rfl,rfl,rfl,rfl,k,l,j,aa,ab,ac,S⟩
  intro ao f w hI a2 c ap
  obtain ⟨i,h4,h5,h6,h8,k,l,j,aa,ab,ac,S⟩:=hI
  refine Ws<|Ws<|Wg<|M' h8<|Fb' h6 ?_
  refine Lo 0 S<|Nq j<|La<|We ?_
  rcases condE c with ⟨ak,c⟩ | ⟨ak,c⟩
  ·refine CT ak<|Wk<|Ws<|Wb<|Ws<|Wg<|M' h4<|Fb' h6 ?_
   refine Lo 0 S<|M' h8<|B c fun av aw c=>W.idx (α:=(List Str)) j rfl rfl el33 aw ?_
   rintro a3 _ ax ⟨a4,rfl,ay⟩
   refine Lq S ax<|M' h5<|B c fun a5 az c=>W.call S rfl (zJa S.holds p av q k ay l az) ?_
   rintro a6 a7 a0 o S rfl
   have k:=Sl.mono k o
   have l:=Sl.mono l o
   have j:=Sl.mono j o
   have aa:=Sl.mono aa o
   have ab:=Sl.mono ab o
   have ac:=Sl.mono ac o
   refine We ?_
   rcases condE c with ⟨al,c⟩ | ⟨al,c⟩
   ·refine CT al<|Ws<|Wg<|A<|We ?_
    obtain rfl:=oi c
    obtain rfl:=ap
    obtain rfl:=oi h
    refine WP.ret (Out.one rfl S rfl ?_)
    exact rfl
   refine CF al<|Wk<|Wg<|M' h8<|Lg<|A<|We ?_
   obtain rfl:=oi c
   exact ⟨rfl,⟨a0,h4,h5,h6,rfl,k,l,j,aa,ab,ac,S⟩⟩
  refine CF ak<|Wx ?_
  obtain rfl:=oi c
  obtain rfl:=ap
  exact ⟨i,(S.drop _ (.cons _ .slnil))⟩
 intro f w hM
 rcases ah with _ | e
 ·obtain ⟨H9,S⟩:=hM
  refine Ws<|Wg<|A<|We ?_
  obtain rfl:=oi h
  refine WP.ret (Out.one rfl S rfl ?_)
  exact rfl
 exact hM.elim
end Go.Proofs
