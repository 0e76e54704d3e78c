/- A part of the proof of laws of the seat: written by program over the translation. -/
import Derived.Test.YtipgfplekgdoiaaGreatDoorEng38
import Derived.Test.YtipgfplekgdoiaaGreatDoorEng32
import Derived.Test.YtipgfplekgdoiaaGreatDoorGenK9
namespace Go.Proofs
set_option maxHeartbeats 4000000
set_option maxRecDepth 10000
open Go.Eng Go.Eng.Pure
set_option linter.unusedVariables false
theorem zFz {u:World} {t:Hp} (hw:Holds u t) (b:GAxis) {l:Value} (c:Sl (α:=Str) t l b.fValues) {r:Bool} (h:zCu b=some r) :
  Con Tryz.prog 97 [(agg [(str b.fName),l])] u t (fun H' v=>v=(boo r)):=by
 refine Con.mk (N:=63) Tryz.func97 rfl rfl kr rfl ?_
 have S:=St.start hw
 refine Ws<|Wg ?_
 refine W.box [(str b.fName),l] S rfl rfl ?_
 intro x w2 S
 refine A<|We<|Ws<|Ws<|WP.quiet S kr kr<|QFb ?_
 refine WQ.val (fun w hw=>by obtain ⟨_,hq,S⟩:=hw; exact (R.loadB (i:=0) (v:=str b.fName) S rfl rfl lay9 rfl))<|B h fun r6 a1 h=>WQ.call (v:=boo r6) rfl (fun w H' hq S=>zA4 S.holds b.fName a1)<|QNo<|QM<|B h fun z q h=>WQ.grp 7 [10,11,12,13,14,15] 16 (boo z) ?_ ?_
 ·rcases boolE (!r6) with d | d
  ·replace q:=condT q d
   refine QGn d<|QGn d<|QGn d<|QGn d<|QGn d<|QGn d<|QPt d ?_
   exact WQ.nil ⟨(congrArg boo (oi q)),ag⟩
  replace q:=condF q d
  refine QGy d<|QFb<|QGy d ?_
  refine WQ.val (fun w hw=>by obtain ⟨_,hq,S⟩:=hw; exact (R.loadB (i:=0) (v:=str b.fName) S rfl rfl lay9 rfl))<|QGy d<|B q fun a2 a3 q=>WQ.call (v:=str a2) rfl (fun w H' hq S=>zB7 S.holds b.fName a3)<|QGy d<|QFb<|QGy d ?_
  refine WQ.val (fun w hw=>by obtain ⟨_,hq,S⟩:=hw; exact (R.loadB (i:=0) (v:=str b.fName) S rfl rfl lay9 rfl))<|QGy d<|QNb<|QPf d ?_
  exact WQ.nil ⟨(congrArg boo (oi q)),ag⟩
 intro us
 refine QM ?_
 refine WQ.grp 5 [18,19,20,21] 22 (boo (z||(decide ((b.fValues.length:Int)<1)))) ?_ ?_
 ·rcases boolE z with o | o
  ·refine QGn o<|QGn o<|QGn o<|QGn o<|QPt o ?_
   exact WQ.nil ⟨(orT o),ag⟩
  refine QGy o<|QFb<|QGy o ?_
  refine WQ.val (fun w hw=>by obtain ⟨_,hq,S⟩:=hw; exact (R.loadB (i:=0) (v:=l) S rfl rfl lay34 rfl))<|QGy o<|QNq c<|QGy o<|QLa<|QPf o ?_
  exact WQ.nil ⟨(orF o),ag⟩
 intro us
 refine QM ?_
 refine WQ.grp 5 [24,25,26,27] 28 (boo ((z||(decide ((b.fValues.length:Int)<1)))||(decide (16<(b.fValues.length:Int))))) ?_ ?_
 ·rcases boolE (z||(decide ((b.fValues.length:Int)<1))) with p | p
  ·refine QGn p<|QGn p<|QGn p<|QGn p<|QPt p ?_
   exact WQ.nil ⟨(orT p),ag⟩
  refine QGy p<|QFb<|QGy p ?_
  refine WQ.val (fun w hw=>by obtain ⟨_,hq,S⟩:=hw; exact (R.loadB (i:=0) (v:=l) S rfl rfl lay34 rfl))<|QGy p<|QNq c<|QGy p<|QLc<|QPf p ?_
  exact WQ.nil ⟨(orF p),ag⟩
 intro us
 refine WQ.nil ?_
 intro w3 H4 a5 S
 have c:=Sl.mono c a5
 rcases condE h with ⟨ai,h⟩ | ⟨ai,h⟩
 ·refine CT ai<|Ws<|Wg<|A<|We ?_
  obtain rfl:=oi h
  refine WP.ret (Out.one rfl S rfl ?_)
  exact rfl
 refine CF ai<|Wk<|Ws<|Ws<|Wg<|A<|We<|B h fun aj a6 h=>WP.cut (fun f w=>match aj with | .inl _=>∃ (av:Hp),St u t w av [] | .inr _=>False) ?_ ?_
 ·refine Wb ?_
  refine WP.loopM (zB4 b) (fun s f w=>match s with | aa=>∃ (ac:Hp),f 1=(ptr x 0)∧f 3=(int aa)∧Sl (α:=Str) ac l b.fValues∧St u t w ac [.box x 68 [(str b.fName),l]]) 0 aj a6 ?_ ?_
  ·exact ⟨H4,rfl,rfl,c,S⟩
  intro aa f w hI bs j ak
  obtain ⟨ac,ad,al,c,S⟩:=hI
  refine Ws<|Ws<|Wg<|M' al<|Fb' ad ?_
  refine Lo 0 S<|Nq c<|La<|We ?_
  rcases condE j with ⟨am,j⟩ | ⟨am,j⟩
  ·refine CT am<|Wk<|Ws<|Wb<|Ws<|Ws<|WP.quiet S kr kr<|QFb' ad ?_
   refine WQ.val (fun w hw=>by obtain ⟨_,hq,S⟩:=hw; exact (R.loadB (i:=0) (v:=str b.fName) S rfl rfl lay9 rfl))<|QFb' ad ?_
   refine WQ.val (fun w hw=>by obtain ⟨_,hq,S⟩:=hw; exact (R.loadB (i:=0) (v:=l) S rfl rfl lay34 rfl))<|QM' al<|B j fun aw a7 j=>WQ.idx (α:=Str) c rfl rfl el34 a7 ?_
   rintro bt _ a8 rfl
   refine WQ.val (fun w hw=>by obtain ⟨_,hq,S⟩:=hw; exact (R.loadH (v:=str aw) S rfl (At.mono a8 hq (by simp)) lay9 rfl))<|B j fun a9 ba j=>WQ.call (v:=boo a9) rfl (fun w H' hq S=>zKd S.holds b.fName aw ba)<|QNo<|WQ.nil ?_
   intro bu bb bc S
   have c:=Sl.mono c bc
   rcases condE j with ⟨an,j⟩ | ⟨an,j⟩
   ·refine CT an<|Ws<|Wg<|A<|We ?_
    obtain rfl:=oi j
    obtain rfl:=ak
    obtain rfl:=oi h
    refine WP.ret (Out.one rfl S rfl ?_)
    exact rfl
   refine CF an<|Wk<|Ws<|Wg<|A<|We<|B j fun ao bd j=>WP.cut (fun f w=>match ao with | .inl _=>∃ (ae:Hp),f 1=(ptr x 0)∧f 3=(int aa)∧Sl (α:=Str) ae l b.fValues∧St u t w ae [.box x 68 [(str b.fName),l]] | .inr _=>False) ?_ ?_
   ·refine Wb ?_
    refine WP.loopM (zBw b aa) (fun s f w=>match s with | ax=>∃ (af:Hp),f 1=(ptr x 0)∧f 3=(int aa)∧f 4=(int ax)∧Sl (α:=Str) af l b.fValues∧St u t w af [.box x 68 [(str b.fName),l]]) 0 ao bd ?_ ?_
    ·exact ⟨bb,ad,al,rfl,c,S⟩
    intro ax f w hI bv k ay
    obtain ⟨af,ab,ah,ap,c,S⟩:=hI
    refine Ws<|Ws<|Wg<|M' ap<|M' ah<|La<|We ?_
    rcases condE k with ⟨aq,k⟩ | ⟨aq,k⟩
    ·refine CT aq<|Wk<|Ws<|Wb<|Ws<|WP.quiet S kr kr<|QFb' ab ?_
     refine WQ.val (fun w hw=>by obtain ⟨_,hq,S⟩:=hw; exact (R.loadB (i:=0) (v:=str b.fName) S rfl rfl lay9 rfl))<|QFb' ab ?_
     refine WQ.val (fun w hw=>by obtain ⟨_,hq,S⟩:=hw; exact (R.loadB (i:=0) (v:=l) S rfl rfl lay34 rfl))<|QM' ah<|B k fun az be k=>WQ.idx (α:=Str) c rfl rfl el34 be ?_
     rintro bw _ bf rfl
     refine WQ.val (fun w hw=>by obtain ⟨_,hq,S⟩:=hw; exact (R.loadH (v:=str az) S rfl (At.mono bf hq (by simp)) lay9 rfl))<|QFb' ab ?_
     refine WQ.val (fun w hw=>by obtain ⟨_,hq,S⟩:=hw; exact (R.loadB (i:=0) (v:=l) S rfl rfl lay34 rfl))<|QM' ap<|B k fun a0 bg k=>WQ.idx (α:=Str) c rfl rfl el34 bg ?_
     rintro bx _ bh rfl
     refine WQ.val (fun w hw=>by obtain ⟨_,hq,S⟩:=hw; exact (R.loadH (v:=str a0) S rfl (At.mono bh hq (by simp)) lay9 rfl))<|B k fun bi bj k=>WQ.call (v:=boo bi) rfl (fun w H' hq S=>zIg S.holds b.fName az a0 bj)<|WQ.nil ?_
     intro bz bk bn S
     have c:=Sl.mono c bn
     rcases condE k with ⟨ar,k⟩ | ⟨ar,k⟩
     ·refine CT ar<|Ws<|Wg<|A<|We ?_
      obtain rfl:=oi k
      obtain rfl:=ay
      obtain rfl:=oi j
      obtain rfl:=ak
      obtain rfl:=oi h
      refine WP.ret (Out.one rfl S rfl ?_)
      exact rfl
     refine CF ar<|Wk<|Wg<|M' ap<|Lg<|A<|We ?_
     obtain rfl:=oi k
     exact ⟨rfl,⟨bk,ab,ah,rfl,c,S⟩⟩
    refine CF aq<|Wx ?_
    obtain rfl:=oi k
    obtain rfl:=ay
    exact ⟨af,ab,ah,c,S⟩
   intro f w hM
   rcases ao with _ | e
   ·obtain ⟨ae,bo,bp,c,S⟩:=hM
    refine Wg<|M' bp<|Lg<|A<|We ?_
    obtain rfl:=oi j
    exact ⟨rfl,⟨ae,bo,rfl,c,S⟩⟩
   exact hM.elim
  refine CF am<|Wx ?_
  obtain rfl:=oi j
  obtain rfl:=ak
  exact ⟨ac,(S.drop _ (.cons _ .slnil))⟩
 intro f w hM
 rcases aj with _ | e
 ·obtain ⟨av,S⟩:=hM
  refine Ws<|Wg<|A<|We ?_
  obtain rfl:=oi h
  refine WP.ret (Out.one rfl S rfl ?_)
  exact rfl
 exact hM.elim
theorem zKf {o:World} {k:Hp} (hw:Holds o k) (j:(List GAxis)) {l:Value} (b:Sl (α:=GAxis) k l j) {r:Bool} (h:zGw j=some r) :
  Con Tryz.prog 64 [l] o k (fun H' v=>v=(boo r)):=by
 refine Con.mk (N:=41) Tryz.func64 rfl rfl kr rfl ?_
 have S:=St.start hw
 refine Ws<|Wg<|A<|We<|Ws<|Ws<|Wg<|M<|Nq b<|La<|M ?_
 refine WL.grp 4 [9,10,11] 12 (boo ((decide ((j.length:Int)<1))||(decide (4<(j.length:Int))))) ?_ ?_
 ·rcases boolE (decide ((j.length:Int)<1)) with i | i
  ·refine Gn i<|Gn i<|Gn i<|Pt i ?_
   exact We ⟨(orT i),ag,rfl⟩
  refine Gy i<|M<|Gy i<|Nq b<|Gy i<|Lc<|Pf i ?_
  exact We ⟨(orF i),ag,rfl⟩
 intro us
 refine We ?_
 rcases condE h with ⟨aa,h⟩ | ⟨aa,h⟩
 ·refine CT aa<|Ws<|Wg<|A<|We ?_
  obtain rfl:=oi h
  refine WP.ret (Out.one rfl S rfl ?_)
  exact rfl
 refine CF aa<|Wk<|Ws<|Ws<|Wg<|A<|We<|B h fun ab aq h=>WP.cut (fun f w=>match ab with | .inl _=>∃ (H8:Hp),St o k w H8 [] | .inr _=>False) ?_ ?_
 ·refine Wb ?_
  refine WP.loopM (zDh j) (fun s f w=>match s with | p=>∃ (q:Hp),f 0=l∧f 3=(int p)∧Sl (α:=GAxis) q l j∧St o k w q []) 0 ab aq ?_ ?_
  ·exact ⟨k,rfl,rfl,b,S⟩
  intro p f w hI y9 c ac
  obtain ⟨q,h5,h7,b,S⟩:=hI
  refine Ws<|Ws<|Wg<|M' h7<|M' h5<|Nq b<|La<|We ?_
  rcases condE c with ⟨af,c⟩ | ⟨af,c⟩
  ·refine CT af<|Wk<|Ws<|Wb<|Ws<|Ws<|Wg<|M' h5<|M' h7<|B c fun an ar c=>W.idx (α:=GAxis) b rfl rfl el22 ar ?_
   rintro be _ au ⟨av,rfl,aw⟩
   refine WL.w (R.loadHN (vs:=[(str an.fName),av]) S rfl au lay68 rfl rfl)<|B c fun bf ax c=>W.call S rfl (zFz S.holds an aw ax) ?_
   rintro bg bh ay az S rfl
   have b:=Sl.mono b az
   refine No<|We ?_
   rcases condE c with ⟨ah,c⟩ | ⟨ah,c⟩
   ·refine CT ah<|Ws<|Wg<|A<|We ?_
    obtain rfl:=oi c
    obtain rfl:=ac
    obtain rfl:=oi h
    refine WP.ret (Out.one rfl S rfl ?_)
    exact rfl
   refine CF ah<|Wk<|Ws<|Wg<|A<|We<|B c fun ai a0 c=>WP.cut (fun f w=>match ai with | .inl _=>∃ (t:Hp),f 0=l∧f 3=(int p)∧Sl (α:=GAxis) t l j∧St o k w t [] | .inr _=>False) ?_ ?_
   ·refine Wb ?_
    refine WP.loopM (zDV j p) (fun s f w=>match s with | ao=>∃ (u:Hp),f 0=l∧f 3=(int p)∧f 4=(int ao)∧Sl (α:=GAxis) u l j∧St o k w u []) 0 ai a0 ?_ ?_
    ·exact ⟨ay,h5,h7,rfl,b,S⟩
    intro ao f w hI bi d ap
    obtain ⟨u,x,z,aj,b,S⟩:=hI
    refine Ws<|Ws<|Wg<|M' aj<|M' z<|La<|We ?_
    rcases condE d with ⟨ak,d⟩ | ⟨ak,d⟩
    ·refine CT ak<|Wk<|Ws<|Wb<|Ws<|WP.quiet S kr kr<|QM' x<|QM' z<|B d fun a1 a2 d=>WQ.idx (α:=GAxis) b rfl rfl el22 a2 ?_
     rintro bj _ a3 ⟨bk,rfl,bn⟩
     refine QFc ?_
     have a4:=At.add a3 0 (by simp)
     refine WQ.val (fun w hw=>by obtain ⟨_,hq,S⟩:=hw; exact (R.loadH (v:=str a1.fName) S rfl (At.mono a4 hq (by simp)) lay9 rfl))<|QM' x<|QM' aj<|B d fun a5 a6 d=>WQ.idx (α:=GAxis) b rfl rfl el22 a6 ?_
     rintro bo _ a7 ⟨bp,rfl,bq⟩
     refine QFc ?_
     have a8:=At.add a7 0 (by simp)
     refine WQ.val (fun w hw=>by obtain ⟨_,hq,S⟩:=hw; exact (R.loadH (v:=str a5.fName) S rfl (At.mono a8 hq (by simp)) lay9 rfl))<|QNa<|WQ.nil ?_
     intro br a9 ba S
     have b:=Sl.mono b ba
     rcases condE d with ⟨al,d⟩ | ⟨al,d⟩
     ·refine CT al<|Ws<|Wg<|A<|We ?_
      obtain rfl:=oi d
      obtain rfl:=ap
      obtain rfl:=oi c
      obtain rfl:=ac
      obtain rfl:=oi h
      refine WP.ret (Out.one rfl S rfl ?_)
      exact rfl
     refine CF al<|Wk<|Wg<|M' aj<|Lg<|A<|We ?_
     obtain rfl:=oi d
     exact ⟨rfl,⟨a9,x,z,rfl,b,S⟩⟩
    refine CF ak<|Wx ?_
    obtain rfl:=oi d
    obtain rfl:=ap
    exact ⟨u,x,z,b,S⟩
   intro f w hM
   rcases ai with _ | e
   ·obtain ⟨t,bb,bc,b,S⟩:=hM
    refine Wg<|M' bc<|Lg<|A<|We ?_
    obtain rfl:=oi c
    exact ⟨rfl,⟨t,bb,rfl,b,S⟩⟩
   exact hM.elim
  refine CF af<|Wx ?_
  obtain rfl:=oi c
  obtain rfl:=ac
  exact ⟨q,S⟩
 intro f w hM
 rcases ab with _ | e
 ·obtain ⟨H8,S⟩:=hM
  refine Ws<|Wg<|A<|We ?_
  obtain rfl:=oi h
  refine WP.ret (Out.one rfl S rfl ?_)
  exact rfl
 exact hM.elim
end Go.Proofs
