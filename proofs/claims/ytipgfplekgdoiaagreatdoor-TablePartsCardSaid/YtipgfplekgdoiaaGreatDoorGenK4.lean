/- A part. -/
import Derived.Test.YtipgfplekgdoiaaGreatDoorEng38
import Derived.Test.YtipgfplekgdoiaaGreatDoorEng36
import Derived.Test.YtipgfplekgdoiaaGreatDoorGenK3
namespace Go.Proofs
set_option maxHeartbeats 4000000
set_option maxRecDepth 10000
open Go.Eng Go.Eng.Pure
set_option linter.unusedVariables false
theorem zBt {w0:World} {H0:Hp} (hw:Holds w0 H0) (b:GEntry) {ar:Value} {ai:Value} {aj:Value} {ak:Value} (d:Sl H0 ar b.fKeys) (o:Sl H0 ai b.fVary) (k:Sl H0 aj b.fSnapshot) (c:Sl H0 ak b.fFields) {r:GEntry} (h:zEK b=some r) :
  Con Tryz.prog 51 [(agg [ar,ai,aj,(str b.fReason),ak,(str b.fBody),(int b.fRequested),(int b.fReceived)])] w0 H0 (fun H' v=>∃ u1 u2 u3 u4:Value,v=(agg [u1,u2,u3,(str r.fReason),u4,(str r.fBody),(int r.fRequested),(int r.fReceived)])∧Sl H' u1 r.fKeys∧Sl H' u2 r.fVary∧Sl H' u3 r.fSnapshot∧Sl H' u4 r.fFields):=by
 refine CM 38 Tryz.func51 hw fun S=>?_
 refine Ws<|Wg ?_
 refine W.box [ar,ai,aj,(str b.fReason),ak,(str b.fBody),(int b.fRequested),(int b.fReceived)] S rfl rfl ?_
 intro b1 w2 S
 refine W.alloc [(.slice none 0 0),(.slice none 0 0),(.slice none 0 0),(str []),(.slice none 0 0),(str []),(int 0),(int 0)] S zer36 ?_
 intro b3 w4 S
 refine We<|Ws<|Wg ?_
 refine WL.w (R.loadBN (i:=1) (vs:=[ar,ai,aj,(str b.fReason),ak,(str b.fBody),(int b.fRequested),(int b.fReceived)]) S rfl rfl lay36 rfl rfl) ?_
 refine W.alloc [(.slice none 0 0),(.slice none 0 0),(.slice none 0 0),(str []),(.slice none 0 0),(str []),(int 0),(int 0)] S zer36 ?_
 intro b5 w6 S
 refine W.store (i:=0) [ar,ai,aj,(str b.fReason),ak,(str b.fBody),(int b.fRequested),(int b.fReceived)] S rfl rfl rfl lay36 rfl (AllOne.all (l:=[ar,ai,aj,(str b.fReason),ak,(str b.fBody),(int b.fRequested),(int b.fReceived)]) (.cons (Sl.oneC d) (.cons (Sl.oneC o) (.cons (Sl.oneC k) (.cons rfl (.cons (Sl.oneC c) (.cons rfl (.cons rfl (.cons rfl .nil))))))))) (Nat.le_of_ble_eq_true rfl) rfl ?_
 intro w7 S
 refine We<|Ws<|Wg<|Fb ?_
 refine W.store (i:=0) [(.slice none 0 0),ai,aj,(str b.fReason),ak,(str b.fBody),(int b.fRequested),(int b.fReceived)] S rfl rfl rfl lay33 rfl (AllOne.all (l:=[(.slice none 0 0)]) (.cons rfl .nil)) (Nat.le_of_ble_eq_true rfl) rfl ?_
 intro w8 S
 refine We<|Ws<|Ws<|Wg<|A<|We ?_
 obtain ⟨v9,b7⟩:∃ v:Value,v=.slice none 0 0:=⟨_,rfl⟩
 have cv:Sl (α:=(List Str)) H0 v9 []:=by rw [b7]; exact Sl.nil
 replace S:=(show ∀ {w:World},St w0 H0 w H0 [.box b5 36 [(.slice none 0 0),ai,aj,(str b.fReason),ak,(str b.fBody),(int b.fRequested),(int b.fReceived)],.box b3 36 [(.slice none 0 0),(.slice none 0 0),(.slice none 0 0),(str []),(.slice none 0 0),(str []),(int 0),(int 0)],.box b1 36 [ar,ai,aj,(str b.fReason),ak,(str b.fBody),(int b.fRequested),(int b.fReceived)]]→St w0 H0 w H0 [.box b5 36 [v9,ai,aj,(str b.fReason),ak,(str b.fBody),(int b.fRequested),(int b.fReceived)],.box b3 36 [(.slice none 0 0),(.slice none 0 0),(.slice none 0 0),(str []),(.slice none 0 0),(str []),(int 0),(int 0)],.box b1 36 [ar,ai,aj,(str b.fReason),ak,(str b.fBody),(int b.fRequested),(int b.fReceived)]] from fun S=>by rw [b7]; exact S) S
 replace S:=St.addNilV b7 S 34 1
 refine B h fun b8 cw h=>WP.cut (fun f w=>match b8 with | (b9,ck,cl,a1,cm,a2,a3,a4)=>∃ (ay:Hp) (au:Value) (ca:Value) (bz:Value) (bn:Value),f 1=(ptr b1 0)∧f 2=(ptr b3 0)∧f 3=(ptr b5 0)∧Sl ay au b9∧Sl ay ca ck∧Sl ay bz cl∧Sl ay bn cm∧Sl ay ar b.fKeys∧Sl ay ai b.fVary∧Sl ay aj b.fSnapshot∧Sl ay ak b.fFields∧St w0 H0 w ay [.row au 34 1 b9.length,.box b5 36 [au,ca,bz,(str a1),bn,(str a2),(int a3),(int a4)],.box b3 36 [(.slice none 0 0),(.slice none 0 0),(.slice none 0 0),(str []),(.slice none 0 0),(str []),(int 0),(int 0)],.box b1 36 [ar,ai,aj,(str b.fReason),ak,(str b.fBody),(int b.fRequested),(int b.fReceived)]]) ?_ ?_
 ·refine Wb ?_
  refine WP.loopM (zBy b) (fun s f w=>match s with | (cb,cc,cn,co,a7,cp,a8,a9,ba)=>∃ (av:Hp) (bo:Value) (al:Value) (am:Value) (an:Value),f 1=(ptr b1 0)∧f 2=(ptr b3 0)∧f 3=(ptr b5 0)∧f 4=(int cb)∧Sl av bo cc∧Sl av al cn∧Sl av am co∧Sl av an cp∧Sl av ar b.fKeys∧Sl av ai b.fVary∧Sl av aj b.fSnapshot∧Sl av ak b.fFields∧St w0 H0 w av [.row bo 34 1 cc.length,.box b5 36 [bo,al,am,(str a7),an,(str a8),(int a9),(int ba)],.box b3 36 [(.slice none 0 0),(.slice none 0 0),(.slice none 0 0),(str []),(.slice none 0 0),(str []),(int 0),(int 0)],.box b1 36 [ar,ai,aj,(str b.fReason),ak,(str b.fBody),(int b.fRequested),(int b.fReceived)]]) (0,([]:List (List Str)),b.fVary,b.fSnapshot,b.fReason,b.fFields,b.fBody,b.fRequested,b.fReceived) b8 cw ?_ ?_
  ·exact ⟨H0,v9,ai,aj,ak,rfl,rfl,rfl,rfl,cv,o,k,c,d,o,k,c,S⟩
  intro s f w hI c9 z cx
  obtain ⟨cb,cc,cn,co,a7,cp,a8,a9,ba⟩:=s
  obtain ⟨av,bo,al,am,an,a5,bd,aq,bb,q,t,u,x,d,o,k,c,S⟩:=hI
  refine Ws<|Ws<|Wg<|M' bb<|Fb' a5 ?_
  refine Lo 3 S<|Nq d<|La<|We ?_
  rcases condE z with ⟨cd,z⟩ | ⟨cd,z⟩
  ·refine CT cd<|Wk<|Ws<|Wb<|WP.draw kr 12 rfl (bm 12 0) rfl ?_
   have S:=S.drew
   refine At_ 0 12 1 rfl (fun _=>(R.fieldB aq zD8)) ?_
   refine At_ 2 12 5 rfl (fun _=>(R.fieldB a5 zD8)) ?_
   refine At_ 4 12 21 rfl (fun _=>(R.mv (v:=int cb) bb)) ?_
   refine WA.two (i:=1) (j:=3) (bm 12 23) (bm 12 29) rfl rfl kr rfl rfl ?_ ?_
   ·refine Lo 1 S<|We<|WA.one (i:=3) (bm 12 31) rfl kr rfl ?_
    refine Lo 3 S<|We<|WA.one (i:=5) (bm 12 63) rfl kr rfl<|B z fun cq bp z=>W.idx (α:=(List Str)) d rfl rfl el33 bp ?_
    rintro cr _ ab ⟨ct,rfl,aa⟩
    refine We<|WA.one (i:=6) (bm 12 127) rfl kr rfl ?_
    refine Lq S ab<|We<|WA.one (i:=7) (bm 12 255) rfl kr rfl ?_
    have S:=S.addNil 9 1
    refine B z fun az a6 z=>W.app (α:=Str) (i:=0) S el34 rfl rfl rfl Sl.nil aa a6 ?_
    intro a0 b0 b2 ao p S
    have ⟨d,q⟩:=U2 ao d q
    have ab:=At.mono ab ao (by simp)
    have ⟨aa,t,u,x,o,k,c⟩:=U7 ao aa t u x o k c
    refine We<|WA.one (i:=8) (bm 12 511) rfl kr rfl<|W.bslice (α:=(List Str)) [a0] ([az]:List (List Str)) S el33 rfl rfl rfl (by decide) (Go.Eng.encS ⟨(by rw [Sl.cellsOne p]; rfl),_,(by rw [Sl.cellsOne p]),p⟩ enc0) ?_
    intro bq br bs ad ac S
    have ⟨d,q⟩:=U2 ad d q
    have ab:=At.mono ab ad (by simp)
    have ⟨aa,p,t,u,x,o,k,c⟩:=U8 ad aa p t u x o k c
    refine We<|WA.one (i:=9) (bm 12 1023) rfl kr rfl<|B z fun bt aw z=>W.app (α:=(List Str)) (i:=2) S el33 rfl rfl rfl q ac aw ?_
    intro ae bu ax af ah S
    have ⟨d,q⟩:=U2 af d q
    have ab:=At.mono ab af (by simp)
    have ⟨aa,p,ac,t,u,x,o,k,c⟩:=U9 af aa p ac t u x o k c
    refine We ?_
    refine At_ 10 12 2047 rfl (fun _=>(R.fieldB aq zD8))<|WA.one (i:=11) (bm 12 4095) rfl kr rfl ?_
    refine W.storeSl (α:=(List Str)) (i:=3) [ae,al,am,(str a7),an,(str a8),(int a9),(int ba)] S ah rfl rfl rfl lay33 (Nat.le_of_ble_eq_true rfl) rfl ?_
    intro bv S
    refine We<|WA.done kr<|Wg<|M' bb<|Lg<|A<|We ?_
    obtain rfl:=oi z
    exact ⟨rfl,⟨ax,ae,al,am,an,a5,bd,aq,rfl,ah,t,u,x,d,o,k,c,(S.pk [2,3,4,5])⟩⟩
   refine Lo 3 S<|We ?_
   refine WA.two (i:=1) (j:=5) (bm 12 31) (bm 12 61) rfl rfl kr rfl rfl ?_ ?_
   ·refine Lo 1 S<|We<|WA.one (i:=5) (bm 12 63) rfl kr rfl<|B z fun cq bp z=>W.idx (α:=(List Str)) d rfl rfl el33 bp ?_
    rintro cr _ ab ⟨ct,rfl,aa⟩
    refine We<|WA.one (i:=6) (bm 12 127) rfl kr rfl ?_
    refine Lq S ab<|We<|WA.one (i:=7) (bm 12 255) rfl kr rfl ?_
    have S:=S.addNil 9 1
    refine B z fun az a6 z=>W.app (α:=Str) (i:=0) S el34 rfl rfl rfl Sl.nil aa a6 ?_
    intro a0 b0 b2 ao p S
    have ⟨d,q⟩:=U2 ao d q
    have ab:=At.mono ab ao (by simp)
    have ⟨aa,t,u,x,o,k,c⟩:=U7 ao aa t u x o k c
    refine We<|WA.one (i:=8) (bm 12 511) rfl kr rfl<|W.bslice (α:=(List Str)) [a0] ([az]:List (List Str)) S el33 rfl rfl rfl (by decide) (Go.Eng.encS ⟨(by rw [Sl.cellsOne p]; rfl),_,(by rw [Sl.cellsOne p]),p⟩ enc0) ?_
    intro bq br bs ad ac S
    have ⟨d,q⟩:=U2 ad d q
    have ab:=At.mono ab ad (by simp)
    have ⟨aa,p,t,u,x,o,k,c⟩:=U8 ad aa p t u x o k c
    refine We<|WA.one (i:=9) (bm 12 1023) rfl kr rfl<|B z fun bt aw z=>W.app (α:=(List Str)) (i:=2) S el33 rfl rfl rfl q ac aw ?_
    intro ae bu ax af ah S
    have ⟨d,q⟩:=U2 af d q
    have ab:=At.mono ab af (by simp)
    have ⟨aa,p,ac,t,u,x,o,k,c⟩:=U9 af aa p ac t u x o k c
    refine We ?_
    refine At_ 10 12 2047 rfl (fun _=>(R.fieldB aq zD8))<|WA.one (i:=11) (bm 12 4095) rfl kr rfl ?_
    refine W.storeSl (α:=(List Str)) (i:=3) [ae,al,am,(str a7),an,(str a8),(int a9),(int ba)] S ah rfl rfl rfl lay33 (Nat.le_of_ble_eq_true rfl) rfl ?_
    intro bv S
    refine We<|WA.done kr<|Wg<|M' bb<|Lg<|A<|We ?_
    obtain rfl:=oi z
    exact ⟨rfl,⟨ax,ae,al,am,an,a5,bd,aq,rfl,ah,t,u,x,d,o,k,c,(S.pk [2,3,4,5])⟩⟩
   refine B z fun cq bp z=>W.idx (α:=(List Str)) d rfl rfl el33 bp ?_
   rintro cr _ ab ⟨ct,rfl,aa⟩
   refine We ?_
   refine WA.two (i:=1) (j:=6) (bm 12 63) (bm 12 125) rfl rfl kr rfl rfl ?_ ?_
   ·refine Lo 1 S<|We<|WA.one (i:=6) (bm 12 127) rfl kr rfl ?_
    refine Lq S ab<|We<|WA.one (i:=7) (bm 12 255) rfl kr rfl ?_
    have S:=S.addNil 9 1
    refine B z fun az a6 z=>W.app (α:=Str) (i:=0) S el34 rfl rfl rfl Sl.nil aa a6 ?_
    intro a0 b0 b2 ao p S
    have d:=d.up ao
    have ab:=At.mono ab ao (by simp)
    have ⟨aa,q,t,u,x,o,k,c⟩:=U8 ao aa q t u x o k c
    refine We<|WA.one (i:=8) (bm 12 511) rfl kr rfl<|W.bslice (α:=(List Str)) [a0] ([az]:List (List Str)) S el33 rfl rfl rfl (by decide) (Go.Eng.encS ⟨(by rw [Sl.cellsOne p]; rfl),_,(by rw [Sl.cellsOne p]),p⟩ enc0) ?_
    intro bq br bs ad ac S
    have d:=d.up ad
    have ab:=At.mono ab ad (by simp)
    have ⟨aa,q,p,t,u,x,o,k,c⟩:=U9 ad aa q p t u x o k c
    refine We<|WA.one (i:=9) (bm 12 1023) rfl kr rfl<|B z fun bt aw z=>W.app (α:=(List Str)) (i:=2) S el33 rfl rfl rfl q ac aw ?_
    intro ae bu ax af ah S
    have d:=d.up af
    have ab:=At.mono ab af (by simp)
    have ⟨aa,q,p,ac,t,u,x,o,k,c⟩:=U10 af aa q p ac t u x o k c
    refine We ?_
    refine At_ 10 12 2047 rfl (fun _=>(R.fieldB aq zD8))<|WA.one (i:=11) (bm 12 4095) rfl kr rfl ?_
    refine W.storeSl (α:=(List Str)) (i:=3) [ae,al,am,(str a7),an,(str a8),(int a9),(int ba)] S ah rfl rfl rfl lay33 (Nat.le_of_ble_eq_true rfl) rfl ?_
    intro bv S
    refine We<|WA.done kr<|Wg<|M' bb<|Lg<|A<|We ?_
    obtain rfl:=oi z
    exact ⟨rfl,⟨ax,ae,al,am,an,a5,bd,aq,rfl,ah,t,u,x,d,o,k,c,(S.pk [2,3,4,5])⟩⟩
   refine Lq S ab<|We ?_
   refine WA.two (i:=1) (j:=7) (bm 12 127) (bm 12 253) rfl rfl kr rfl rfl ?_ ?_
   ·refine Lo 1 S<|We<|WA.one (i:=7) (bm 12 255) rfl kr rfl ?_
    have S:=S.addNil 9 1
    refine B z fun az a6 z=>W.app (α:=Str) (i:=0) S el34 rfl rfl rfl Sl.nil aa a6 ?_
    intro a0 b0 b2 ao p S
    have ⟨d,aa,q,t,u,x,o,k,c⟩:=U9 ao d aa q t u x o k c
    refine We<|WA.one (i:=8) (bm 12 511) rfl kr rfl<|W.bslice (α:=(List Str)) [a0] ([az]:List (List Str)) S el33 rfl rfl rfl (by decide) (Go.Eng.encS ⟨(by rw [Sl.cellsOne p]; rfl),_,(by rw [Sl.cellsOne p]),p⟩ enc0) ?_
    intro bq br bs ad ac S
    have ⟨d,aa,q,p,t,u,x,o,k,c⟩:=U10 ad d aa q p t u x o k c
    refine We<|WA.one (i:=9) (bm 12 1023) rfl kr rfl<|B z fun bt aw z=>W.app (α:=(List Str)) (i:=2) S el33 rfl rfl rfl q ac aw ?_
    intro ae bu ax af ah S
    have ⟨d,aa,q,p,ac,t,u,x,o,k,c⟩:=U11 af d aa q p ac t u x o k c
    refine We ?_
    refine At_ 10 12 2047 rfl (fun _=>(R.fieldB aq zD8))<|WA.one (i:=11) (bm 12 4095) rfl kr rfl ?_
    refine W.storeSl (α:=(List Str)) (i:=3) [ae,al,am,(str a7),an,(str a8),(int a9),(int ba)] S ah rfl rfl rfl lay33 (Nat.le_of_ble_eq_true rfl) rfl ?_
    intro bv S
    refine We<|WA.done kr<|Wg<|M' bb<|Lg<|A<|We ?_
    obtain rfl:=oi z
    exact ⟨rfl,⟨ax,ae,al,am,an,a5,bd,aq,rfl,ah,t,u,x,d,o,k,c,(S.pk [2,3,4,5])⟩⟩
   have S:=S.addNil 9 1
   refine B z fun az a6 z=>W.app (α:=Str) (i:=0) S el34 rfl rfl rfl Sl.nil aa a6 ?_
   intro a0 b0 b2 ao p S
   have ⟨d,q,t,u,x,o,k,c⟩:=U8 ao d q t u x o k c
   refine We ?_
   refine WA.two (i:=1) (j:=8) (bm 12 255) (bm 12 509) rfl rfl kr rfl rfl ?_ ?_
   ·refine Lo 2 S<|We<|WA.one (i:=8) (bm 12 511) rfl kr rfl<|W.bslice (α:=(List Str)) [a0] ([az]:List (List Str)) S el33 rfl rfl rfl (by decide) (Go.Eng.encS ⟨(by rw [Sl.cellsOne p]; rfl),_,(by rw [Sl.cellsOne p]),p⟩ enc0) ?_
    intro bq br bs ad ac S
    have ⟨d,p,q,t,u,x,o,k,c⟩:=U9 ad d p q t u x o k c
    refine We<|WA.one (i:=9) (bm 12 1023) rfl kr rfl<|B z fun bt aw z=>W.app (α:=(List Str)) (i:=2) S el33 rfl rfl rfl q ac aw ?_
    intro ae bu ax af ah S
    have ⟨d,p,q,ac,t,u,x,o,k,c⟩:=U10 af d p q ac t u x o k c
    refine We ?_
    refine At_ 10 12 2047 rfl (fun _=>(R.fieldB aq zD8))<|WA.one (i:=11) (bm 12 4095) rfl kr rfl ?_
    refine W.storeSl (α:=(List Str)) (i:=3) [ae,al,am,(str a7),an,(str a8),(int a9),(int ba)] S ah rfl rfl rfl lay33 (Nat.le_of_ble_eq_true rfl) rfl ?_
    intro bv S
    refine We<|WA.done kr<|Wg<|M' bb<|Lg<|A<|We ?_
    obtain rfl:=oi z
    exact ⟨rfl,⟨ax,ae,al,am,an,a5,bd,aq,rfl,ah,t,u,x,d,o,k,c,(S.pk [2,3,4,5])⟩⟩
   refine W.bslice (α:=(List Str)) [a0] ([az]:List (List Str)) S el33 rfl rfl rfl (by decide) (Go.Eng.encS ⟨(by rw [Sl.cellsOne p]; rfl),_,(by rw [Sl.cellsOne p]),p⟩ enc0) ?_
   intro bq br bs ad ac S
   have ⟨d,q,t,u,x,o,k,c⟩:=U8 ad d q t u x o k c
   refine We<|WA.one (i:=1) (bm 12 511) rfl kr rfl ?_
   refine Lo 3 S<|We<|WA.one (i:=9) (bm 12 1023) rfl kr rfl<|B z fun bt aw z=>W.app (α:=(List Str)) (i:=2) S el33 rfl rfl rfl q ac aw ?_
   intro ae bu ax af ah S
   have ⟨d,q,t,u,x,o,k,c⟩:=U8 af d q t u x o k c
   refine We ?_
   refine At_ 10 12 2047 rfl (fun _=>(R.fieldB aq zD8))<|WA.one (i:=11) (bm 12 4095) rfl kr rfl ?_
   refine W.storeSl (α:=(List Str)) (i:=3) [ae,al,am,(str a7),an,(str a8),(int a9),(int ba)] S ah rfl rfl rfl lay33 (Nat.le_of_ble_eq_true rfl) rfl ?_
   intro bv S
   refine We<|WA.done kr<|Wg<|M' bb<|Lg<|A<|We ?_
   obtain rfl:=oi z
   exact ⟨rfl,⟨ax,ae,al,am,an,a5,bd,aq,rfl,ah,t,u,x,d,o,k,c,(S.pk [2,3,4,5])⟩⟩
  refine CF cd<|Wx ?_
  obtain rfl:=oi z
  obtain rfl:=cx
  exact ⟨av,bo,al,am,an,a5,bd,aq,q,t,u,x,d,o,k,c,S⟩
 intro f w hM
 obtain ⟨b9,ck,cl,a1,cm,a2,a3,a4⟩:=b8
 obtain ⟨ay,au,ca,bz,bn,ce,cu,b4,bc,da,db,dc,d,o,k,c,S⟩:=hM
 refine Ws<|Wg<|Fb' ce ?_
 refine Lo 3 S ?_
 have S:=S.addNil 9 1
 refine B h fun dd cy h=>W.app (α:=Str) (i:=0) S el34 rfl rfl rfl Sl.nil o cy ?_
 intro be de df cz bf S
 have ⟨bc,k,c⟩:=U3 cz bc k c
 refine Fb' b4 ?_
 refine W.storeSl (α:=Str) (i:=2) [au,be,bz,(str a1),bn,(str a2),(int a3),(int a4)] S bf rfl rfl rfl lay34 (Nat.le_of_ble_eq_true rfl) rfl ?_
 intro dh S
 refine We<|Ws<|Wg<|Fb' ce ?_
 refine Lo 4 S ?_
 have S:=S.addNil 9 1
 refine B h fun di c0 h=>W.app (α:=Str) (i:=0) S el34 rfl rfl rfl Sl.nil k c0 ?_
 intro bk dj dk c1 bw S
 have ⟨bf,bc,c⟩:=U3 c1 bf bc c
 refine Fb' b4 ?_
 refine W.storeSl (α:=Str) (i:=3) [au,be,bk,(str a1),bn,(str a2),(int a3),(int a4)] S bw rfl rfl rfl lay34 (Nat.le_of_ble_eq_true rfl) rfl ?_
 intro dl S
 refine We<|Ws<|Wg<|Fb' ce ?_
 refine Lo 5 S ?_
 have S:=S.addNil 64 2
 refine B h fun dm c2 h=>W.app (α:=GField) (i:=0) S el26 rfl rfl rfl Sl.nil c c2 ?_
 intro bx dn dp c3 cf S
 have ⟨bf,bw,bc⟩:=U3 c3 bf bw bc
 refine Fb' b4 ?_
 refine W.storeSl (α:=GField) (i:=4) [au,be,bk,(str a1),bx,(str a2),(int a3),(int a4)] S cf rfl rfl rfl lay26 (Nat.le_of_ble_eq_true rfl) rfl ?_
 intro dq S
 refine We<|Ws<|Wg ?_
 refine WL.w (R.loadBN (i:=4) (vs:=[au,be,bk,(str a1),bx,(str a2),(int a3),(int a4)]) S b4 rfl lay36 rfl rfl) ?_
 refine W.store (i:=5) [au,be,bk,(str a1),bx,(str a2),(int a3),(int a4)] S cu rfl rfl lay36 rfl (AllOne.all (l:=[au,be,bk,(str a1),bx,(str a2),(int a3),(int a4)]) (.cons (Sl.oneC bc) (.cons (Sl.oneC bf) (.cons (Sl.oneC bw) (.cons rfl (.cons (Sl.oneC cf) (.cons rfl (.cons rfl (.cons rfl .nil))))))))) (Nat.le_of_ble_eq_true rfl) rfl ?_
 intro dr S
 refine We ?_
 obtain rfl:=oi h
 refine WP.ret (Out.one rfl S (Res.cellB (i:=5) (cs:=[au,be,bk,(str a1),bx,(str a2),(int a3),(int a4)]) S cu rfl lay36 rfl rfl) ?_)
 exact ⟨_,_,_,_,rfl,bc,bf,bw,cf⟩
end Go.Proofs
