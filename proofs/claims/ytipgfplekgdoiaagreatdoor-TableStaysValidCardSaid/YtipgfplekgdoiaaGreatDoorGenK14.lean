/- A part of the proof of laws of the seat: written by program over the translation. -/
import Derived.Test.YtipgfplekgdoiaaGreatDoorEng38
import Derived.Test.YtipgfplekgdoiaaGreatDoorEng32
import Derived.Test.YtipgfplekgdoiaaGreatDoorGenK13
namespace Go.Proofs
set_option maxHeartbeats 4000000
set_option maxRecDepth 10000
open Go.Eng Go.Eng.Pure
set_option linter.unusedVariables false
theorem zSi {k:World} {d:Hp} (hw:Holds k d) (l:(List Str)) (o:(List Str)) {p:Value} {q:Value} (c:Sl (α:=Str) d p l) (i:Sl (α:=Str) d q o) {r:Bool} (h:zSc l o=some r) :
  Con Tryz.prog 53 [p,q] k d (fun H' v=>v=(boo r)):=by
 refine Con.mk (N:=26) Tryz.func53 rfl rfl kr rfl ?_
 have S:=St.start hw
 refine Ws<|Wg<|A<|We<|Ws<|Ws<|Wg<|M<|Nq c<|M<|Nq i<|Lf ?_
 refine We ?_
 rcases condE h with ⟨u,h⟩ | ⟨u,h⟩
 ·refine CT u<|Ws<|Wg<|A<|We ?_
  obtain rfl:=oi h
  refine WP.ret (Out.one rfl S rfl ?_)
  exact rfl
 refine CF u<|Wk<|Ws<|Ws<|Wg<|A<|We<|B h fun x ai h=>WP.cut (fun f w=>match x with | .inl _=>∃ (H7:Hp),St k d w H7 [] | .inr _=>False) ?_ ?_
 ·refine Wb ?_
  refine WP.loopM (zSa l o) (fun s f w=>match s with | ad=>∃ (j:Hp),f 0=p∧f 1=q∧f 5=(int ad)∧Sl (α:=Str) j p l∧Sl (α:=Str) j q o∧St k d w j []) 0 x ai ?_ ?_
  ·exact ⟨d,rfl,rfl,rfl,c,i,S⟩
  intro ad f w hI y8 b ae
  obtain ⟨j,z,h4,t,c,i,S⟩:=hI
  refine Ws<|Ws<|Wg<|M' t<|M' z<|Nq c<|La<|We ?_
  rcases condE b with ⟨aa,b⟩ | ⟨aa,b⟩
  ·refine CT aa<|Wk<|Ws<|Wb<|Ws<|WP.quiet S kr kr<|QM' z<|QM' t<|B b fun aj ak b=>WQ.idx (α:=Str) c rfl rfl el34 ak ?_
   rintro ar _ al rfl
   refine WQ.val (fun w hw=>by obtain ⟨_,hq,S⟩:=hw; exact (R.loadH (v:=str aj) S rfl (At.mono al hq (by simp)) lay9 rfl))<|QM' h4<|QM' t<|B b fun am an b=>WQ.idx (α:=Str) i rfl rfl el34 an ?_
   rintro au _ ao rfl
   refine WQ.val (fun w hw=>by obtain ⟨_,hq,S⟩:=hw; exact (R.loadH (v:=str am) S rfl (At.mono ao hq (by simp)) lay9 rfl))<|QNb<|WQ.nil ?_
   intro av ap ah S
   have c:=Sl.mono c ah
   have i:=Sl.mono i ah
   rcases condE b with ⟨ab,b⟩ | ⟨ab,b⟩
   ·refine CT ab<|Ws<|Wg<|A<|We ?_
    obtain rfl:=oi b
    obtain rfl:=ae
    obtain rfl:=oi h
    refine WP.ret (Out.one rfl S rfl ?_)
    exact rfl
   refine CF ab<|Wk<|Wg<|M' t<|Lg<|A<|We ?_
   obtain rfl:=oi b
   exact ⟨rfl,⟨ap,z,h4,rfl,c,i,S⟩⟩
  refine CF aa<|Wx ?_
  obtain rfl:=oi b
  obtain rfl:=ae
  exact ⟨j,S⟩
 intro f w hM
 rcases x with _ | e
 ·obtain ⟨H7,S⟩:=hM
  refine Ws<|Wg<|A<|We ?_
  obtain rfl:=oi h
  refine WP.ret (Out.one rfl S rfl ?_)
  exact rfl
 exact hM.elim
theorem zAD {d:World} {b:Hp} (hw:Holds d b) (f:List Str) {j:Value} (k:Sl (α:=Str) b j f) {r:List Str} (h:zAZ f=some r) :
  Con Tryz.prog 83 [j] d b (fun H' v=>Sl (α:=Str) H' v r):=by
 unfold zAZ at h
 refine Con.mk (N:=8) Tryz.func83 rfl rfl kr rfl ?_
 have S:=St.start hw
 refine Ws<|Wg<|A<|We<|Ws<|Ws<|Wg<|M ?_
 rcases Sl.nilE k with ⟨c,hv,hl⟩ | ⟨a,n,c,hv⟩
 ·refine WL.w (R.eqNil hv rfl Tryz.underlying34)<|We<|CT rfl<|Ws<|Wg<|A<|We ?_
  refine WP.ret (Out.one rfl S rfl ?_)
  subst hl
  obtain rfl:=oi h
  exact Sl.nil
 refine WL.w (R.eqNil hv rfl Tryz.underlying34)<|We<|CF rfl<|Wk<|Ws<|Wg<|W.bslice (α:=Str) (n:=0) (ps:=[]) [] [] S el34 rfl rfl rfl (by decide) (fun i v x h=>by cases h) ?_
 intro u q t l o S
 have Rp:=Sl.mono k l
 refine M<|W.app (α:=Str) (i:=0) S el34 rfl rfl rfl o Rp h ?_
 intro z w2 H2 ac p S
 refine A<|We ?_
 refine WP.ret (Out.one rfl S rfl ?_)
 exact p
theorem zIm {w0:World} {H0:Hp} (hw:Holds w0 H0) (ad:(List GAxis)) {an:Value} (b:Sl (α:=GAxis) H0 an ad) {r:(List GAxis)} (h:zGc ad=some r) :
  Con Tryz.prog 46 [an] w0 H0 (fun H' v=>Sl (α:=GAxis) H' v r):=by
 refine Con.mk (N:=23) Tryz.func46 rfl rfl kr rfl ?_
 have S:=St.start hw
 refine Ws<|Wg<|A<|We<|Ws<|Wg<|A<|We<|Ws<|Ws<|Wg<|M ?_
 refine Nq b<|M<|We ?_
 have S:=S.addNil 68 2
 refine B h fun ar a7 h=>WP.cut (fun f w=>∃ (au:Hp) (ao:Value),f 3=ao∧Sl (α:=GAxis) au ao ar∧St w0 H0 w au [.row ao 68 2 ar.length]) ?_ ?_
 ·refine Wb ?_
  refine WP.loopM (zEC ad) (fun s f w=>match s with | (av,ay)=>∃ (H1:Hp) (v3:Value),f 3=v3∧f 6=an∧f 7=(int (ad.length:Int))∧f 8=(int ay)∧Sl (α:=GAxis) H1 v3 av∧Sl (α:=GAxis) H1 an ad∧St w0 H0 w H1 [.row v3 68 2 av.length]) (([]:List GAxis),0) ar a7 ?_ ?_
  ·exact ⟨H0,.slice none 0 0,rfl,rfl,rfl,rfl,Sl.nil,b,S⟩
  intro s f w hI bd d a8
  obtain ⟨av,ay⟩:=s
  obtain ⟨H1,v3,h5,h6,h7,h9,c,b,S⟩:=hI
  refine Ws<|Wg<|La' h9 h7<|We<|Ws ?_
  rcases condE d with ⟨aw,d⟩ | ⟨aw,d⟩
  ·refine CT aw<|Wk<|Ws<|Wb<|Ws<|Wg<|B d fun k a9 d=>W.idx (α:=GAxis) b h6 h9 el22 a9 ?_
   rintro be _ ba ⟨ax,rfl,o⟩
   refine WL.w (R.loadHN (vs:=[(str k.fName),ax]) S rfl ba lay68 rfl rfl) ?_
   refine W.alloc [(str []),(.slice none 0 0)] S zer68 ?_
   intro bf bg S
   refine W.store (i:=0) [(str k.fName),ax] S rfl rfl rfl lay68 rfl (AllOne.all (l:=[(str k.fName),ax]) (.cons rfl (.cons (Sl.oneC o) .nil))) (Nat.le_of_ble_eq_true rfl) rfl ?_
   intro bh S
   refine We<|WP.draw kr 10 rfl (bm 10 0) rfl ?_
   have S:=S.drew
   refine WA.take (i:=0) (bm 10 1) rfl kr kr kr rfl (fun _=>(R.mv (v:=v3) h5)) ?_
   refine WA.take (i:=1) (bm 10 3) rfl kr kr kr rfl (fun _=>(R.fieldB rfl zPq)) ?_
   refine WA.take (i:=3) (bm 10 11) rfl kr kr kr rfl (fun _=>(R.fieldB rfl zOy)) ?_
   refine WA.two (i:=2) (j:=4) (bm 10 15) (bm 10 27) rfl rfl kr rfl rfl ?_ ?_
   ·refine Lo 0 S<|We<|WA.one (i:=4) (bm 10 31) rfl kr rfl ?_
    refine Lo 0 S<|We<|WA.one (i:=5) (bm 10 63) rfl kr rfl<|B d fun ah ai d=>W.call S rfl (zAD S.holds k.fValues o ai) ?_
    rintro u a0 a1 x S p
    have c:=Sl.mono c x
    have b:=Sl.mono b x
    have o:=Sl.mono o x
    refine We ?_
    refine WA.take (i:=6) (bm 10 127) rfl kr kr kr rfl (fun _=>(R.build [(0,(str k.fName)),(1,u)] [(str k.fName),u] bp68 zer68 rfl (by obtain ⟨_,_,rfl,_⟩:=p; rfl)))<|WA.one (i:=7) (bm 10 255) rfl kr rfl<|W.bslice (α:=GAxis) [(agg [(str k.fName),u])] ([(⟨k.fName,ah⟩:GAxis)]:List GAxis) S el22 rfl rfl rfl (by decide) (Go.Eng.encS ⟨rfl,_,rfl,p⟩ enc0) ?_
    intro a2 a3 a4 t z S
    have c:=Sl.mono c t
    have b:=Sl.mono b t
    have o:=Sl.mono o t
    have p:=Sl.mono p t
    refine We<|WA.one (i:=8) (bm 10 511) rfl kr rfl<|B d fun a5 aj d=>W.app (α:=GAxis) (i:=2) S el22 rfl rfl rfl c z aj ?_
    intro aa a6 ak q al S
    have c:=Sl.mono c q
    have b:=Sl.mono b q
    have o:=Sl.mono o q
    have p:=Sl.mono p q
    have z:=Sl.mono z q
    refine We ?_
    refine WA.take (i:=9) (bm 10 1023) rfl kr kr kr rfl (fun _=>(R.as (v:=aa) rfl))<|WA.done kr<|Wg<|Lg' h9 rfl<|M<|We ?_
    obtain rfl:=oi d
    exact ⟨rfl,⟨ak,aa,rfl,h6,h7,rfl,al,b,(S.drop _ (.cons _ (.cons _ (.cons_cons _ .slnil))))⟩⟩
   refine Lo 0 S<|We ?_
   refine WA.two (i:=2) (j:=5) (bm 10 31) (bm 10 59) rfl rfl kr rfl rfl ?_ ?_
   ·refine Lo 0 S<|We<|WA.one (i:=5) (bm 10 63) rfl kr rfl<|B d fun ah ai d=>W.call S rfl (zAD S.holds k.fValues o ai) ?_
    rintro u a0 a1 x S p
    have c:=Sl.mono c x
    have b:=Sl.mono b x
    have o:=Sl.mono o x
    refine We ?_
    refine WA.take (i:=6) (bm 10 127) rfl kr kr kr rfl (fun _=>(R.build [(0,(str k.fName)),(1,u)] [(str k.fName),u] bp68 zer68 rfl (by obtain ⟨_,_,rfl,_⟩:=p; rfl)))<|WA.one (i:=7) (bm 10 255) rfl kr rfl<|W.bslice (α:=GAxis) [(agg [(str k.fName),u])] ([(⟨k.fName,ah⟩:GAxis)]:List GAxis) S el22 rfl rfl rfl (by decide) (Go.Eng.encS ⟨rfl,_,rfl,p⟩ enc0) ?_
    intro a2 a3 a4 t z S
    have c:=Sl.mono c t
    have b:=Sl.mono b t
    have o:=Sl.mono o t
    have p:=Sl.mono p t
    refine We<|WA.one (i:=8) (bm 10 511) rfl kr rfl<|B d fun a5 aj d=>W.app (α:=GAxis) (i:=2) S el22 rfl rfl rfl c z aj ?_
    intro aa a6 ak q al S
    have c:=Sl.mono c q
    have b:=Sl.mono b q
    have o:=Sl.mono o q
    have p:=Sl.mono p q
    have z:=Sl.mono z q
    refine We ?_
    refine WA.take (i:=9) (bm 10 1023) rfl kr kr kr rfl (fun _=>(R.as (v:=aa) rfl))<|WA.done kr<|Wg<|Lg' h9 rfl<|M<|We ?_
    obtain rfl:=oi d
    exact ⟨rfl,⟨ak,aa,rfl,h6,h7,rfl,al,b,(S.drop _ (.cons _ (.cons _ (.cons_cons _ .slnil))))⟩⟩
   refine B d fun ah ai d=>W.call S rfl (zAD S.holds k.fValues o ai) ?_
   rintro u a0 a1 x S p
   have c:=Sl.mono c x
   have b:=Sl.mono b x
   refine We<|WA.one (i:=2) (bm 10 63) rfl kr rfl ?_
   refine Lo 0 S<|We ?_
   refine WA.take (i:=6) (bm 10 127) rfl kr kr kr rfl (fun _=>(R.build [(0,(str k.fName)),(1,u)] [(str k.fName),u] bp68 zer68 rfl (by obtain ⟨_,_,rfl,_⟩:=p; rfl)))<|WA.one (i:=7) (bm 10 255) rfl kr rfl<|W.bslice (α:=GAxis) [(agg [(str k.fName),u])] ([(⟨k.fName,ah⟩:GAxis)]:List GAxis) S el22 rfl rfl rfl (by decide) (Go.Eng.encS ⟨rfl,_,rfl,p⟩ enc0) ?_
   intro a2 a3 a4 t z S
   have c:=Sl.mono c t
   have b:=Sl.mono b t
   refine We<|WA.one (i:=8) (bm 10 511) rfl kr rfl<|B d fun a5 aj d=>W.app (α:=GAxis) (i:=2) S el22 rfl rfl rfl c z aj ?_
   intro aa a6 ak q al S
   have c:=Sl.mono c q
   have b:=Sl.mono b q
   refine We ?_
   refine WA.take (i:=9) (bm 10 1023) rfl kr kr kr rfl (fun _=>(R.as (v:=aa) rfl))<|WA.done kr<|Wg<|Lg' h9 rfl<|M<|We ?_
   obtain rfl:=oi d
   exact ⟨rfl,⟨ak,aa,rfl,h6,h7,rfl,al,b,(S.drop _ (.cons _ (.cons _ (.cons_cons _ .slnil))))⟩⟩
  refine CF aw<|Wx ?_
  obtain rfl:=oi d
  obtain rfl:=a8
  exact ⟨H1,v3,h5,c,S⟩
 rintro f w ⟨au,ao,bb,bc,S⟩
 refine Ws<|Wg<|M' bb<|A<|We ?_
 obtain rfl:=oi h
 refine WP.ret (Out.one rfl S rfl ?_)
 exact bc
theorem zAJ {d:World} {b:Hp} (hw:Holds d b) (f:List GField) {j:Value} (k:Sl (α:=GField) b j f) {r:List GField} (h:zAk f=some r) :
  Con Tryz.prog 86 [j] d b (fun H' v=>Sl (α:=GField) H' v r):=by
 unfold zAk at h
 refine Con.mk (N:=8) Tryz.func86 rfl rfl kr rfl ?_
 have S:=St.start hw
 refine Ws<|Wg<|A<|We<|Ws<|Ws<|Wg<|M ?_
 rcases Sl.nilE k with ⟨c,hv,hl⟩ | ⟨a,n,c,hv⟩
 ·refine WL.w (R.eqNil hv rfl Tryz.underlying26)<|We<|CT rfl<|Ws<|Wg<|A<|We ?_
  refine WP.ret (Out.one rfl S rfl ?_)
  subst hl
  obtain rfl:=oi h
  exact Sl.nil
 refine WL.w (R.eqNil hv rfl Tryz.underlying26)<|We<|CF rfl<|Wk<|Ws<|Wg<|W.bslice (α:=GField) (n:=0) (ps:=[]) [] [] S el26 rfl rfl rfl (by decide) (fun i v x h=>by cases h) ?_
 intro u q t l o S
 have Rp:=Sl.mono k l
 refine M<|W.app (α:=GField) (i:=0) S el26 rfl rfl rfl o Rp h ?_
 intro z w2 H2 ac p S
 refine A<|We ?_
 refine WP.ret (Out.one rfl S rfl ?_)
 exact p
end Go.Proofs
