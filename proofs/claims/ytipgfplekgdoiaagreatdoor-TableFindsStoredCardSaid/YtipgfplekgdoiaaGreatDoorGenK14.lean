/- A part. -/
import Derived.Test.YtipgfplekgdoiaaGreatDoorEng38
import Derived.Test.YtipgfplekgdoiaaGreatDoorEng33
import Derived.Test.YtipgfplekgdoiaaGreatDoorGenK13
namespace Go.Proofs
set_option maxHeartbeats 4000000
set_option maxRecDepth 10000
open Go.Eng Go.Eng.Pure
set_option linter.unusedVariables false
theorem zAD {d:World} {b:Hp} (hw:Holds d b) (f:List Str) {j:Value} (k:Sl b j f) {r:List Str} (h:zAZ f=some r) :
  Con Tryz.prog 83 [j] d b (fun H' v=>Sl H' v r):=by
 unfold zAZ at h
 refine CM 8 Tryz.func83 hw fun S=>?_
 refine Ws<|Wg<|A<|We<|Ws<|Ws<|Wg<|M ?_
 rcases Sl.nilE k with ⟨c,hv,hl⟩ | ⟨a,n,c,hv⟩
 ·refine WL.w (R.eqNil hv rfl Tryz.underlying34)<|We<|CT rfl<|Ws<|Wg<|A<|We ?_
  refine WP.ret (Out.one rfl S rfl ?_)
  subst hl
  cases h
  exact Sl.nil
 refine WL.w (R.eqNil hv rfl Tryz.underlying34)<|We<|CF rfl<|Wk<|Ws<|Wg<|W.bslice (α:=Str) (n:=0) (ps:=[]) [] [] S el34 rfl rfl rfl (by decide) (fun i v x h=>by cases h) ?_
 intro u q t l o S
 have Rp:=k.up l
 refine M<|W.app (α:=Str) (i:=0) S el34 rfl rfl rfl o Rp h ?_
 intro z w2 H2 ac p S
 refine A<|We ?_
 refine WP.ret (Out.one rfl S rfl ?_)
 exact p
theorem zIm {w0:World} {H0:Hp} (hw:Holds w0 H0) (ad:(List GAxis)) {an:Value} (b:Sl H0 an ad) {r:(List GAxis)} (h:zGc ad=some r) :
  Con Tryz.prog 46 [an] w0 H0 (fun H' v=>Sl H' v r):=by
 refine CM 23 Tryz.func46 hw fun S=>?_
 refine Ws<|Wg<|A<|We<|Ws<|Wg<|A<|We<|Ws<|Ws<|Wg<|M ?_
 refine Nq b<|M<|We ?_
 have S:=S.addNil 68 2
 refine B h fun ar a7 h=>WP.cut (fun f w=>∃ (au:Hp) (ao:Value),f 3=ao∧Sl au ao ar∧St w0 H0 w au [.row ao 68 2 ar.length]) ?_ ?_
 ·refine Wb ?_
  refine WP.loopM (zEC ad) (fun s f w=>match s with | (av,ay)=>∃ (H1:Hp) (v3:Value),f 3=v3∧f 6=an∧f 7=(int (ad.length:Int))∧f 8=(int ay)∧Sl H1 v3 av∧Sl H1 an ad∧St w0 H0 w H1 [.row v3 68 2 av.length]) (([]:List GAxis),0) ar a7 ?_ ?_
  ·exact ⟨H0,.slice none 0 0,rfl,rfl,rfl,rfl,Sl.nil,b,S⟩
  intro s f w hI bd d a8
  obtain ⟨av,ay⟩:=s
  obtain ⟨H1,v3,h5,h6,h7,h9,c,b,S⟩:=hI
  refine Ws<|Wg<|La' h9 h7<|We<|Ws ?_
  rcases condE d with ⟨aw,d⟩ | ⟨aw,d⟩
  ·refine CT aw<|Wk<|Ws<|Wb<|Ws<|Wg<|B d fun k a9 d=>W.idx (α:=GAxis) b h6 h9 el22 a9 ?_
   rintro be _ ba ⟨ax,rfl,o⟩
   refine WL.w (R.loadHN (vs:=[(str k.fName),ax]) S rfl ba lay68 rfl rfl) ?_
   refine W.alloc [(str []),(.slice none 0 0)] S zer68 ?_
   intro bf bg S
   refine W.store (i:=0) [(str k.fName),ax] S rfl rfl rfl lay68 rfl (AllOne.all (l:=[(str k.fName),ax]) (.cons rfl (.cons (Sl.oneC o) .nil))) (Nat.le_of_ble_eq_true rfl) rfl ?_
   intro bh S
   refine We<|WP.draw kr 10 rfl (bm 10 0) rfl ?_
   have S:=S.drew
   refine At_ 0 10 1 rfl (fun _=>(R.mv (v:=v3) h5)) ?_
   refine At_ 1 10 3 rfl (fun _=>(R.fieldB rfl zPq)) ?_
   refine At_ 3 10 11 rfl (fun _=>(R.fieldB rfl zOy)) ?_
   refine WA.two (i:=2) (j:=4) (bm 10 15) (bm 10 27) rfl rfl kr rfl rfl ?_ ?_
   ·refine Lo 0 S<|We<|WA.one (i:=4) (bm 10 31) rfl kr rfl ?_
    refine Lo 0 S<|We<|WA.one (i:=5) (bm 10 63) rfl kr rfl<|B d fun ah ai d=>W.call S rfl (zAD S.holds k.fValues o ai) ?_
    rintro u a0 a1 x S p
    have c:=c.up x
    have b:=b.up x
    have o:=o.up x
    refine We ?_
    refine At_ 6 10 127 rfl (fun _=>(R.build [(0,(str k.fName)),(1,u)] [(str k.fName),u] bp68 zer68 rfl (by obtain ⟨_,_,rfl,_⟩:=p; rfl)))<|WA.one (i:=7) (bm 10 255) rfl kr rfl<|W.bslice (α:=GAxis) [(agg [(str k.fName),u])] ([(⟨k.fName,ah⟩:GAxis)]:List GAxis) S el22 rfl rfl rfl (by decide) (Go.Eng.encS ⟨rfl,_,rfl,p⟩ enc0) ?_
    intro a2 a3 a4 t z S
    have c:=c.up t
    have b:=b.up t
    have o:=o.up t
    have p:=p.up t
    refine We<|WA.one (i:=8) (bm 10 511) rfl kr rfl<|B d fun a5 aj d=>W.app (α:=GAxis) (i:=2) S el22 rfl rfl rfl c z aj ?_
    intro aa a6 ak q al S
    have c:=c.up q
    have b:=b.up q
    have o:=o.up q
    have p:=p.up q
    have z:=z.up q
    refine We ?_
    refine At_ 9 10 1023 rfl (fun _=>(R.as (v:=aa) rfl))<|WA.done kr<|Wg<|Lg' h9 rfl<|M<|We ?_
    cases d
    exact ⟨rfl,⟨ak,aa,rfl,h6,h7,rfl,al,b,(S.drop _ (.cons _ (.cons _ (.cons_cons _ .slnil))))⟩⟩
   refine Lo 0 S<|We ?_
   refine WA.two (i:=2) (j:=5) (bm 10 31) (bm 10 59) rfl rfl kr rfl rfl ?_ ?_
   ·refine Lo 0 S<|We<|WA.one (i:=5) (bm 10 63) rfl kr rfl<|B d fun ah ai d=>W.call S rfl (zAD S.holds k.fValues o ai) ?_
    rintro u a0 a1 x S p
    have c:=c.up x
    have b:=b.up x
    have o:=o.up x
    refine We ?_
    refine At_ 6 10 127 rfl (fun _=>(R.build [(0,(str k.fName)),(1,u)] [(str k.fName),u] bp68 zer68 rfl (by obtain ⟨_,_,rfl,_⟩:=p; rfl)))<|WA.one (i:=7) (bm 10 255) rfl kr rfl<|W.bslice (α:=GAxis) [(agg [(str k.fName),u])] ([(⟨k.fName,ah⟩:GAxis)]:List GAxis) S el22 rfl rfl rfl (by decide) (Go.Eng.encS ⟨rfl,_,rfl,p⟩ enc0) ?_
    intro a2 a3 a4 t z S
    have c:=c.up t
    have b:=b.up t
    have o:=o.up t
    have p:=p.up t
    refine We<|WA.one (i:=8) (bm 10 511) rfl kr rfl<|B d fun a5 aj d=>W.app (α:=GAxis) (i:=2) S el22 rfl rfl rfl c z aj ?_
    intro aa a6 ak q al S
    have c:=c.up q
    have b:=b.up q
    have o:=o.up q
    have p:=p.up q
    have z:=z.up q
    refine We ?_
    refine At_ 9 10 1023 rfl (fun _=>(R.as (v:=aa) rfl))<|WA.done kr<|Wg<|Lg' h9 rfl<|M<|We ?_
    cases d
    exact ⟨rfl,⟨ak,aa,rfl,h6,h7,rfl,al,b,(S.drop _ (.cons _ (.cons _ (.cons_cons _ .slnil))))⟩⟩
   refine B d fun ah ai d=>W.call S rfl (zAD S.holds k.fValues o ai) ?_
   rintro u a0 a1 x S p
   have c:=c.up x
   have b:=b.up x
   refine We<|WA.one (i:=2) (bm 10 63) rfl kr rfl ?_
   refine Lo 0 S<|We ?_
   refine At_ 6 10 127 rfl (fun _=>(R.build [(0,(str k.fName)),(1,u)] [(str k.fName),u] bp68 zer68 rfl (by obtain ⟨_,_,rfl,_⟩:=p; rfl)))<|WA.one (i:=7) (bm 10 255) rfl kr rfl<|W.bslice (α:=GAxis) [(agg [(str k.fName),u])] ([(⟨k.fName,ah⟩:GAxis)]:List GAxis) S el22 rfl rfl rfl (by decide) (Go.Eng.encS ⟨rfl,_,rfl,p⟩ enc0) ?_
   intro a2 a3 a4 t z S
   have c:=c.up t
   have b:=b.up t
   refine We<|WA.one (i:=8) (bm 10 511) rfl kr rfl<|B d fun a5 aj d=>W.app (α:=GAxis) (i:=2) S el22 rfl rfl rfl c z aj ?_
   intro aa a6 ak q al S
   have c:=c.up q
   have b:=b.up q
   refine We ?_
   refine At_ 9 10 1023 rfl (fun _=>(R.as (v:=aa) rfl))<|WA.done kr<|Wg<|Lg' h9 rfl<|M<|We ?_
   cases d
   exact ⟨rfl,⟨ak,aa,rfl,h6,h7,rfl,al,b,(S.drop _ (.cons _ (.cons _ (.cons_cons _ .slnil))))⟩⟩
  refine CF aw<|Wx ?_
  cases d
  obtain rfl:=a8
  exact ⟨H1,v3,h5,c,S⟩
 rintro f w ⟨au,ao,bb,bc,S⟩
 refine Ws<|Wg<|M' bb<|A<|We ?_
 exact WP.ret (Rl h S bc)
theorem zAJ {d:World} {b:Hp} (hw:Holds d b) (f:List GField) {j:Value} (k:Sl b j f) {r:List GField} (h:zAk f=some r) :
  Con Tryz.prog 86 [j] d b (fun H' v=>Sl H' v r):=by
 unfold zAk at h
 refine CM 8 Tryz.func86 hw fun S=>?_
 refine Ws<|Wg<|A<|We<|Ws<|Ws<|Wg<|M ?_
 rcases Sl.nilE k with ⟨c,hv,hl⟩ | ⟨a,n,c,hv⟩
 ·refine WL.w (R.eqNil hv rfl Tryz.underlying26)<|We<|CT rfl<|Ws<|Wg<|A<|We ?_
  refine WP.ret (Out.one rfl S rfl ?_)
  subst hl
  cases h
  exact Sl.nil
 refine WL.w (R.eqNil hv rfl Tryz.underlying26)<|We<|CF rfl<|Wk<|Ws<|Wg<|W.bslice (α:=GField) (n:=0) (ps:=[]) [] [] S el26 rfl rfl rfl (by decide) (fun i v x h=>by cases h) ?_
 intro u q t l o S
 have Rp:=k.up l
 refine M<|W.app (α:=GField) (i:=0) S el26 rfl rfl rfl o Rp h ?_
 intro z w2 H2 ac p S
 refine A<|We ?_
 refine WP.ret (Out.one rfl S rfl ?_)
 exact p
end Go.Proofs
