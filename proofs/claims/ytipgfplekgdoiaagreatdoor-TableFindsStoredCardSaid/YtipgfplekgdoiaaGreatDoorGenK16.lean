/- A part. -/
import Derived.Test.YtipgfplekgdoiaaGreatDoorEng38
import Derived.Test.YtipgfplekgdoiaaGreatDoorEng33
import Derived.Test.YtipgfplekgdoiaaGreatDoorGenK15
namespace Go.Proofs
set_option maxHeartbeats 4000000
set_option maxRecDepth 10000
open Go.Eng Go.Eng.Pure
set_option linter.unusedVariables false
theorem zBW {t:World} {c:Hp} (hw:Holds t c) (k:(List GAxis)) (u:(List GAxis)) (ad:(GAxis→GAxis→Option Bool)) {x:Value} {z:Value} {kp_eq:FuncId} {cp_eq:List Value} (d:Sl c x k) (j:Sl c z u) (Fp_eq:∀ {w:World} {H:Hp},c.le H→Holds w H→∀ (x0:GAxis) (x1:GAxis),∀ {al am:Value},Sl H al x0.fValues→Sl H am x1.fValues→∀ (rr:Bool),ad x0 x1=some rr→Con Tryz.prog kp_eq ([(agg [(str x0.fName),al]),(agg [(str x1.fName),am])]++cp_eq) w H (fun H' v=>v=(boo rr))) {r:Bool} (h:zAb k u ad=some r) :
  Cb Tryz.prog 81 [x,z,(.func (.func kp_eq) #[] cp_eq.toArray)] t c r:=by
 refine CM 32 Tryz.func81 hw fun S=>?_
 refine Ws<|Wg<|A<|We<|Ws<|Ws<|Wg<|M<|Nq d<|M<|Nq j<|Lf ?_
 refine We ?_
 rcases condE h with ⟨ah,h⟩ | ⟨ah,h⟩
 ·refine CT ah<|Ws<|Wg<|A<|We ?_
  exact WP.ret (Rb h S)
 refine CF ah<|Wk<|Ws<|Ws<|Wg<|M<|Nq d<|M<|We<|B h fun ai az h=>WP.cut (fun f w=>match ai with | .inl _=>∃ (H9:Hp),St t c w H9 [] | .inr _=>False) ?_ ?_
 ·refine Wb ?_
  refine WP.loopM (zAP k u ad) (fun s f w=>match s with | ao=>∃ (o:Hp),f 1=z∧f 2=(.func (.func kp_eq) #[] cp_eq.toArray)∧f 15=x∧f 16=(int (k.length:Int))∧f 17=(int ao)∧Sl o z u∧Sl o x k∧St t c w o []) 0 ai az ?_ ?_
  ·exact ⟨c,rfl,rfl,rfl,rfl,rfl,j,d,S⟩
  intro ao f w hI a6 b ap
  obtain ⟨o,h3,h4,h5,h6,h8,j,d,S⟩:=hI
  refine Ws<|Wg<|La' h8 h6<|We<|Ws ?_
  rcases condE b with ⟨aj,b⟩ | ⟨aj,b⟩
  ·refine CT aj<|Wk<|Ws<|Wb<|Ws<|Wg<|M' h8<|B b fun p a0 b=>W.idx (α:=GAxis) d h5 h8 el22 a0 ?_
   rintro a7 _ a1 ⟨ab,rfl,aw⟩
   refine WL.w (R.loadHN (vs:=[(str p.fName),ab]) S rfl a1 lay68 rfl rfl) ?_
   refine W.alloc [(str []),(.slice none 0 0)] S zer68 ?_
   intro a8 a9 S
   refine A ?_
   refine W.store (i:=0) [(str p.fName),ab] S rfl rfl rfl lay68 rfl (AllOne.all (l:=[(str p.fName),ab]) (.cons rfl (.cons (Sl.oneC aw) .nil))) (Nat.le_of_ble_eq_true rfl) rfl ?_
   intro ba S
   refine We<|Ws<|Wg<|M' h3<|M<|B b fun q a2 b=>W.idx (α:=GAxis) j rfl rfl el22 a2 ?_
   rintro bb _ a3 ⟨ac,rfl,ax⟩
   refine WL.w (R.loadHN (vs:=[(str q.fName),ac]) S rfl a3 lay68 rfl rfl) ?_
   refine W.alloc [(str []),(.slice none 0 0)] S zer68 ?_
   intro bc bd S
   refine W.store (i:=0) [(str q.fName),ac] S rfl rfl rfl lay68 rfl (AllOne.all (l:=[(str q.fName),ac]) (.cons rfl (.cons (Sl.oneC ax) .nil))) (Nat.le_of_ble_eq_true rfl) rfl ?_
   intro be S
   refine We<|Ws<|Wg<|M' h4 ?_
   refine WL.w (R.loadBN (i:=1) (vs:=[(str p.fName),ab]) S rfl rfl lay68 rfl rfl) ?_
   refine WL.w (R.loadBN (i:=0) (vs:=[(str q.fName),ac]) S rfl rfl lay68 rfl rfl)<|B b fun bf a4 b=>W.callv S rfl rfl (Fp_eq (S.post.le) S.holds p q aw ax _ a4) ?_
   rintro bg bh a5 ay S rfl
   have j:=j.up ay
   have d:=d.up ay
   refine No<|We ?_
   rcases condE b with ⟨ak,b⟩ | ⟨ak,b⟩
   ·refine CT ak<|Ws<|Wg<|A<|We ?_
    cases b
    obtain rfl:=ap
    exact WP.ret (Rb h S)
   refine CF ak<|Wk<|Wg<|Lg' h8 rfl<|M<|We ?_
   cases b
   exact ⟨rfl,⟨a5,h3,h4,h5,h6,rfl,j,d,(S.drop _ (.cons _ (.cons _ .slnil)))⟩⟩
  refine CF aj<|Wx ?_
  cases b
  obtain rfl:=ap
  exact ⟨o,S⟩
 intro f w hM
 rcases ai with _ | e
 ·obtain ⟨H9,S⟩:=hM
  refine Ws<|Wg<|A<|We ?_
  exact WP.ret (Rb h S)
 exact hM.elim
theorem zIB {l:World} {d:Hp} (hw:Holds l d) (f:GAxis) (i:GAxis) {j:Value} {k:Value} (o:Sl d j f.fValues) (p:Sl d k i.fValues) {r:Bool} (h:zDs f i=some r) :
  Cb Tryz.prog 82 [(agg [(str f.fName),j]),(agg [(str i.fName),k])] l d r:=by
 refine CM 17 Tryz.func82 hw fun S=>?_
 refine Ws<|Wg ?_
 refine W.box [(str f.fName),j] S rfl rfl ?_
 intro q w2 S
 refine W.box [(str i.fName),k] S rfl rfl ?_
 intro t w4 S
 refine A<|We<|Ws<|Wg<|Fb ?_
 refine Lo 1 S<|Fb ?_
 refine Lo 0 S<|Na<|M<|B h fun u c h=>WL.grpw 6 [11,12,13,14,15] 16 (boo u) (fun w=>∃ H':Hp,d.le H'∧St l d w H' [.box t 68 [(str i.fName),k],.box q 68 [(str f.fName),j]]) ?_ ?_
 ·rcases boolE (f.fName==i.fName) with b | b
  ·replace c:=condT c b
   refine Gy b<|Fb<|Gy b ?_
   refine Lo 1 S<|Gy b<|Fb<|Gy b ?_
   refine Lo 0 S<|Gy b<|B c fun r7 v c=>W.call S rfl (zAu S.holds f.fValues i.fValues o p v) ?_
   rintro v8 w9 x z S rfl
   refine Pt b ?_
   exact We ⟨(ob c),ag,⟨x,z,S⟩⟩
  replace c:=condF c b
  refine Gn b<|Gn b<|Gn b<|Gn b<|Gn b<|Pf b ?_
  exact We ⟨(ob c),ag,⟨d,lr,S⟩⟩
 intro us af ⟨ah,ai,S⟩
 refine A<|We ?_
 exact WP.ret (Rb h S)
theorem zJF {f:World} {b:Hp} (hw:Holds f b) (c:(List GAxis)) (d:(List GAxis)) {i:Value} {j:Value} (k:Sl b i c) (l:Sl b j d) {r:Bool} (h:zEh c d=some r) :
  Cb Tryz.prog 45 [i,j] f b r:=by
 refine CM 8 Tryz.func45 hw fun S=>?_
 refine Ws<|Wg<|A<|We<|Ws<|Wg<|M<|M<|B h fun v o h=>W.call S rfl (zBW S.holds c d zDs k l (fun hle hw p q=>fun t u r h=>zIB hw p q t u h) o) ?_
 rintro x z H4 ab S rfl
 refine A<|We ?_
 exact WP.ret (Rb h S)
theorem zIC {o:World} {c:Hp} (hw:Holds o c) (d:(List Str)) (f:(List GAxis)) (b:GEntry) {p:Value} {q:Value} {i:Value} {j:Value} {k:Value} {l:Value} {t:Addr} {u:Addr} (v:Sl c p d) (x:At c t [q]) (z:Sl c q f) (aa:At c u [i,j,k,(str b.fReason),l,(str b.fBody),(int b.fRequested),(int b.fReceived)]) (ab:Sl c i b.fKeys) (ac:Sl c j b.fVary) (ad:Sl c k b.fSnapshot) (ae:Sl c l b.fFields) {r:Bool} (h:zCX d f b=some r) :
  Cb Tryz.prog 85 [p,(.pointer (some t)),(.pointer (some u))] o c r:=by
 refine CM 9 Tryz.func85 hw fun S=>?_
 refine Ws<|Wg<|A<|We<|Ws<|Wg ?_
 refine Lq S x ?_
 refine WL.w (R.loadHN (vs:=[i,j,k,(str b.fReason),l,(str b.fBody),(int b.fRequested),(int b.fReceived)]) S rfl aa lay36 rfl rfl)<|M<|B h fun r1 af h=>W.call S rfl (zJK S.holds f b d z ab ac ad ae v af) ?_
 rintro v2 w3 H4 al S rfl
 refine A<|We ?_
 exact WP.ret (Rb h S)
theorem zGR {w0:World} {f:Hp} (hw:Holds w0 f) (am:(List GAxis)) (c:GEntry) (b:GEntry) {al:Value} {z:Value} {aa:Value} {ab:Value} {ac:Value} {ad:Value} {ae:Value} {af:Value} {ah:Value} (j:Sl f al am) (o:Sl f z c.fKeys) (az:Sl f aa c.fVary) (ao:Sl f ab c.fSnapshot) (ba:Sl f ac c.fFields) (p:Sl f ad b.fKeys) (k:Sl f ae b.fVary) (l:Sl f af b.fSnapshot) (q:Sl f ah b.fFields) {r:Bool} (h:zDc am c b=some r) :
  Cb Tryz.prog 49 [al,(agg [z,aa,ab,(str c.fReason),ac,(str c.fBody),(int c.fRequested),(int c.fReceived)]),(agg [ad,ae,af,(str b.fReason),ah,(str b.fBody),(int b.fRequested),(int b.fReceived)])] w0 f r:=by
 refine CM 26 Tryz.func49 hw fun S=>?_
 refine Ws<|Wg ?_
 refine W.box [al] S rfl (congrArg Array.toList (Sl.cellsOne j)) ?_
 intro b1 w2 S
 refine W.box [z,aa,ab,(str c.fReason),ac,(str c.fBody),(int c.fRequested),(int c.fReceived)] S rfl rfl ?_
 intro b3 w4 S
 refine W.box [ad,ae,af,(str b.fReason),ah,(str b.fBody),(int b.fRequested),(int b.fReceived)] S rfl rfl ?_
 intro b5 w6 S
 refine A<|We<|Ws<|Ws<|Wg ?_
 refine Lo 2 S<|Nq j<|Le<|We ?_
 rcases condE h with ⟨ar,h⟩ | ⟨ar,h⟩
 ·refine CT ar<|Ws<|Wg<|Fb ?_
  refine Lo 1 S<|Fb ?_
  refine Lo 0 S<|B h fun r8 a1 h=>W.call S rfl (zAu S.holds c.fVary b.fVary az k a1) ?_
  rintro v9 bf aw u S rfl
  have j:=j.up u
  have o:=o.up u
  have ao:=ao.up u
  have p:=p.up u
  have k:=k.up u
  have l:=l.up u
  have q:=q.up u
  refine M<|B h fun a2 t h=>WL.grpw 6 [16,17,18,19,20] 21 (boo a2) (fun w=>∃ H':Hp,aw.le H'∧St w0 f w H' [.box b5 36 [ad,ae,af,(str b.fReason),ah,(str b.fBody),(int b.fRequested),(int b.fReceived)],.box b3 36 [z,aa,ab,(str c.fReason),ac,(str c.fBody),(int c.fRequested),(int c.fReceived)],.box b1 22 [al]]) ?_ ?_
  ·rcases boolE r8 with d | d
   ·replace t:=condT t d
    refine Gy d<|Fb<|Gy d ?_
    refine Lo 1 S<|Gy d<|Fb<|Gy d ?_
    refine Lo 0 S<|Gy d<|B t fun bg a3 t=>W.call S rfl (zAu S.holds c.fSnapshot b.fSnapshot ao l a3) ?_
    rintro bh bi a4 v S rfl
    have j:=j.up v
    have o:=o.up v
    have p:=p.up v
    have k:=k.up v
    have l:=l.up v
    have q:=q.up v
    refine Pt d ?_
    exact We ⟨(ob t),ag,⟨a4,v,S⟩⟩
   replace t:=condF t d
   refine Gn d<|Gn d<|Gn d<|Gn d<|Gn d<|Pf d ?_
   exact We ⟨(ob t),ag,⟨aw,lr,S⟩⟩
  intro us bj ⟨bk,ai,S⟩
  have j:=j.up ai
  have o:=o.up ai
  have p:=p.up ai
  have k:=k.up ai
  have l:=l.up ai
  have q:=q.up ai
  refine A<|We ?_
  exact WP.ret (Rb h S)
 refine CF ar<|Wk<|Ws<|Wg<|Fb ?_
 refine Lo 1 S ?_
 obtain ⟨ax,aj,a5,_,S⟩:=S.settle (i:=2) rfl
 replace S:St w0 f _ ax [.box b5 36 [ad,ae,af,(str b.fReason),ah,(str b.fBody),(int b.fRequested),(int b.fReceived)],.box b3 36 [z,aa,ab,(str c.fReason),ac,(str c.fBody),(int c.fRequested),(int c.fReceived)]]:=S
 have au:At ax ⟨b1,0,none⟩ [al]:=⟨_,_,rfl,a5,[],by simp⟩
 have j:=j.up aj
 have o:=o.up aj
 have p:=p.up aj
 have k:=k.up aj
 have l:=l.up aj
 have q:=q.up aj
 obtain ⟨ay,x,a6,_,S⟩:=S.settle (i:=0) rfl
 replace S:St w0 f _ ay [.box b3 36 [z,aa,ab,(str c.fReason),ac,(str c.fBody),(int c.fRequested),(int c.fReceived)]]:=S
 have a7:At ay ⟨b5,0,none⟩ [ad,ae,af,(str b.fReason),ah,(str b.fBody),(int b.fRequested),(int b.fReceived)]:=⟨_,_,rfl,a6,[],by simp⟩
 have j:=j.up x
 have o:=o.up x
 have p:=p.up x
 have k:=k.up x
 have l:=l.up x
 have q:=q.up x
 have au:=At.mono au x (by simp)
 refine WL.w (R.mkFunc (vs:=[(.pointer (some ⟨b1,0,none⟩)),(.pointer (some ⟨b5,0,none⟩))]) rfl)<|B h fun bn a8 h=>W.call S rfl (zAy S.holds c.fKeys (fun x0=>zCX x0 am b) o (fun hle hw x0=>fun q0 r h=>zIC hw x0 am b q0 (At.mono au hle (by simp)) (j.up hle) (At.mono a7 hle (by simp)) (p.up hle) (k.up hle) (l.up hle) (q.up hle) h) a8) ?_
 rintro bo bp bq br S rfl
 refine A<|We ?_
 exact WP.ret (Rb h S)
theorem zKU {v:World} {d:Hp} (hw:Holds v d) (b:GEntry) (o:(List GAxis)) (c:GEntry) {f:Value} {j:Value} {k:Value} {l:Value} {x:Value} {p:Value} {q:Value} {t:Value} {u:Value} {z:Addr} {aa:Addr} (ab:Sl d f b.fKeys) (ac:Sl d j b.fVary) (ad:Sl d k b.fSnapshot) (ae:Sl d l b.fFields) (af:At d z [x]) (ah:Sl d x o) (ai:At d aa [p,q,t,(str c.fReason),u,(str c.fBody),(int c.fRequested),(int c.fReceived)]) (aj:Sl d p c.fKeys) (ak:Sl d q c.fVary) (al:Sl d t c.fSnapshot) (am:Sl d u c.fFields) {r:Bool} (h:zFg b o c=some r) :
  Cb Tryz.prog 48 [(agg [f,j,k,(str b.fReason),l,(str b.fBody),(int b.fRequested),(int b.fReceived)]),(.pointer (some z)),(.pointer (some aa))] v d r:=by
 refine CM 9 Tryz.func48 hw fun S=>?_
 refine Ws<|Wg ?_
 refine W.box [f,j,k,(str b.fReason),l,(str b.fBody),(int b.fRequested),(int b.fReceived)] S rfl rfl ?_
 intro b1 w2 S
 refine A<|We<|Ws<|Wg ?_
 refine Lq S af ?_
 refine WL.w (R.loadHN (vs:=[p,q,t,(str c.fReason),u,(str c.fBody),(int c.fRequested),(int c.fReceived)]) S rfl ai lay36 rfl rfl) ?_
 refine WL.w (R.loadBN (i:=0) (vs:=[f,j,k,(str b.fReason),l,(str b.fBody),(int b.fRequested),(int b.fReceived)]) S rfl rfl lay36 rfl rfl)<|B h fun r3 an h=>W.call S rfl (zGR S.holds o c b ah aj ak al am ab ac ad ae an) ?_
 rintro v4 w5 H6 aw S rfl
 refine A<|We ?_
 exact WP.ret (Rb h S)
theorem zCt {l:World} {d:Hp} (hw:Holds l d) (j:(List GEntry)) (q:(GEntry→Option Bool)) {o:Value} {kp_f:FuncId} {cp_f:List Value} (i:Sl d o j) (Fp_f:∀ {w:World} {H:Hp},d.le H→Holds w H→∀ (c:GEntry),∀ {aa ab ac ad:Value},Sl H aa c.fKeys→Sl H ab c.fVary→Sl H ac c.fSnapshot→Sl H ad c.fFields→∀ (rr:Bool),q c=some rr→Con Tryz.prog kp_f ([(agg [aa,ab,ac,(str c.fReason),ad,(str c.fBody),(int c.fRequested),(int c.fReceived)])]++cp_f) w H (fun H' v=>v=(boo rr))) {r:Int} (h:zAp j q=some r) :
  Ci Tryz.prog 84 [o,(.func (.func kp_f) #[] cp_f.toArray)] l d r:=by
 refine CM 19 Tryz.func84 hw fun S=>?_
 refine Ws<|Wg<|A<|We<|Ws<|Ws<|Wg<|M<|Nq i<|M<|We<|B h fun t al h=>WP.cut (fun f w=>match t with | .inl _=>∃ (H7:Hp),St l d w H7 [] | .inr _=>False) ?_ ?_
 ·refine Wb ?_
  refine WP.loopM (zAQ j q) (fun s f w=>match s with | af=>∃ (p:Hp),f 0=o∧f 1=(.func (.func kp_f) #[] cp_f.toArray)∧f 7=(int (j.length:Int))∧f 8=(int af)∧Sl p o j∧St l d w p []) 0 t al ?_ ?_
  ·exact ⟨d,rfl,rfl,rfl,rfl,i,S⟩
  intro af f w hI y8 b ah
  obtain ⟨p,h2,h3,h4,u,i,S⟩:=hI
  refine Ws<|Wg<|La' u h4<|We<|Ws ?_
  rcases condE b with ⟨x,b⟩ | ⟨x,b⟩
  ·refine CT x<|Wk<|Ws<|Wb<|Ws<|Wg<|M' u<|A<|We<|Ws<|Wg<|M' h3 ?_
   refine M' h2<|M<|B b fun k am b=>W.idx (α:=GEntry) i rfl rfl el23 am ?_
   rintro a2 _ an ⟨ao,ap,aq,ar,rfl,au,av,aw,ax⟩
   refine WL.w (R.loadHN (vs:=[ao,ap,aq,(str k.fReason),ar,(str k.fBody),(int k.fRequested),(int k.fReceived)]) S rfl an lay36 rfl rfl)<|B b fun a3 ay b=>W.callv S rfl rfl (Fp_f (S.post.le) S.holds k au av aw ax _ ay) ?_
   rintro a4 a5 az a0 S rfl
   have i:=i.up a0
   refine We ?_
   rcases condE b with ⟨z,b⟩ | ⟨z,b⟩
   ·refine CT z<|Ws<|Wg<|M<|A<|We ?_
    cases b
    obtain rfl:=ah
    exact WP.ret (Ri h S)
   refine CF z<|Wk<|Wg<|Lg' u rfl<|M<|We ?_
   cases b
   exact ⟨rfl,⟨az,h2,h3,h4,rfl,i,S⟩⟩
  refine CF x<|Wx ?_
  cases b
  obtain rfl:=ah
  exact ⟨p,S⟩
 intro f w hM
 rcases t with _ | e
 ·obtain ⟨H7,S⟩:=hM
  refine Ws<|Wg<|A<|We ?_
  exact WP.ret (Ri h S)
 exact hM.elim
theorem zCi {w0 ws:World} {H0 Hs:Hp} {L2:List Ent} (b:(List GEntry)) (ad:(GEntry→Option Bool)) {v:Value} {en:Ent} {kd:FuncId} {cd:List Value} (S:St w0 H0 ws Hs (en :: L2)) (RM:MR (α:=GEntry) Hs en 36 v b)
  (F:∀ {w:World} {H:Hp},Hs.le H→Holds w H→∀ (d:GEntry),∀ {al am an ao:Value},Sl H al d.fKeys→Sl H am d.fVary→Sl H an d.fSnapshot→Sl H ao d.fFields→∀ (rr:Bool),ad d=some rr→Con Tryz.prog kd ([(agg [al,am,an,(str d.fReason),ao,(str d.fBody),(int d.fRequested),(int d.fReceived)])]++cd) w H (fun H' v=>v=(boo rr)))
  {r:List GEntry} (h:zAR b ad=some r) :
  ConS Tryz.prog 47 [v,(.func (.func kd) #[] cd.toArray)] w0 H0 ws Hs L2 (fun H' v' L'=>∃ en',L'=[en']∧MR (α:=GEntry) H' en' 36 v' r):=by
 unfold zAR at h
 refine ConS.mk (N:=42) Tryz.func47 rfl rfl kr rfl<|Ws<|Wg<|A<|We<|Ws<|Wg<|M<|M<|B h fun i hi h=>?_
 obtain ⟨H1,ar,au,R1⟩:=S.view_ (i:=0) rfl RM
 refine W.callF S rfl (zCt au b ad R1 (fun hle=>F (Hp.le.trans ar hle)) hi) ?_
 rintro _ w1 H2 rfl S
 refine A<|We<|Ws<|Ws<|Wg<|M<|Le<|We ?_
 unfold delR at h
 rcases condE h with ⟨hc,h⟩ | ⟨hc,h⟩
 ·refine CT hc<|Ws<|Wg<|M<|A<|We ?_
  cases h
  refine WP.ret (OutS.one (L':=[en]) rfl lr S rfl ?_)
  exact ⟨en,rfl,RM⟩
 refine CF hc<|Wk ?_
 rcases condE h with ⟨hb,h⟩ | ⟨hb,h⟩
 case inr=>cases h
 have hb:=of_decide_eq_true hb
 obtain ⟨c,rfl⟩:=Int.eq_ofNat_of_zero_le hb.1
 have ap:c<b.length:=by omega
 rcases RM with ⟨_,hnil,_⟩ | ⟨g,cap,cur0,cs0,rfl,rfl,hnc,hcm,hcs,htk,hC⟩
 ·subst hnil; exact absurd ap (Nat.not_lt_zero _)
 have D0:DelI Hs b cur0 (b.take c) (c+1):=DelI.start htk hC ap
 have hmax:b.length≤9223372036854775807:=by simp only [maxLen] at hcm; omega
 have ax:(b.take c).length=c:=by rw [List.length_take]; omega
 refine Ws<|Ws<|Wg<|M<|Lg<|A<|We ?_
 refine WP.cut (fun f w=>∃ (m:Nat) (cur:Array Value),f 0=.slice (some ⟨g,0,none⟩) b.length cap∧f 5=int r.length∧b.length≤m∧cur.size=cap*8∧DelI Hs b cur r m∧St w0 H0 w Hs (.obj g (.cells cur 36 (0,0)) :: L2)) ?_ ?_
 ·refine Wb ?_
  refine WP.loopM (delL b ad) (fun s f w=>∃ (m:Nat) (cur:Array Value),s.2=m∧f 0=.slice (some ⟨g,0,none⟩) b.length cap∧f 1=.func (.func kd) #[] cd.toArray∧f 5=int s.1.length∧f 6=int m∧cur.size=cap*8∧DelI Hs b cur s.1 m∧St w0 H0 w Hs (.obj g (.cells cur 36 (0,0)) :: L2)) _ _ h ?_ ?_
  ·refine ⟨c+1,cur0,rfl,rfl,rfl,?_,?_,hcs,D0,S⟩
   ·show int c=int ((b.take (Int.toNat c)).length:Nat)
    rw [Int.toNat_natCast,ax]
   show int (wr ((c:Int)+1))=int ((c+1:Nat):Int)
   rw [wr_eq ⟨by omega,by omega⟩]; rfl
  rintro ⟨K,mi⟩ f w ⟨m,cur,rfl,j,h1,k,h6,hsz,D,S⟩ y hy hyr
  unfold delL at hy
  refine Ws<|Ws<|Wg<|M' h6<|M' j<|Nv<|La<|We ?_
  rcases condE hy with ⟨hcm,hy⟩ | ⟨hcm,hy⟩
  ·refine CT hcm<|Wk ?_
   have hmn:m<b.length:=by have:=of_decide_eq_true hcm; omega
   refine B hy fun x hx hy=>?_
   obtain rfl:b[m]=x:=by
    unfold xnth at hx
    rw [if_pos (by omega)] at hx
    have:=(List.getElem?_eq_some_iff.1 hx).2
    exact this
   obtain ⟨_,aq,_,p,q,t,u,rfl,q1,q2,q3,q4⟩:=D.look hmn
   refine Ws<|Wb<|Ws<|Wg<|M' j<|M' h6 ?_
   refine WL.w (R.idxN (m:=(m:Int)) rfl rfl el23 ⟨by omega,by omega⟩) ?_
   refine WL.w (R.loadO (i:=0) (o:=m*8) (vs:=[p,q,t,(str b[m].fReason),u,(str b[m].fBody),(int b[m].fRequested),(int b[m].fReceived)]) S rfl rfl lay36 rfl aq) ?_
   refine W.alloc _ S zer36 ?_
   intro b7 w8 S
   refine W.store (i:=0) [p,q,t,(str b[m].fReason),u,(str b[m].fBody),(int b[m].fRequested),(int b[m].fReceived)] S rfl rfl rfl lay36 rfl (AllOne.all (l:=[p,q,t,(str b[m].fReason),u,(str b[m].fBody),(int b[m].fRequested),(int b[m].fReceived)]) (.cons (Sl.oneC q1) (.cons (Sl.oneC q2) (.cons (Sl.oneC q3) (.cons rfl (.cons (Sl.oneC q4) (.cons rfl (.cons rfl (.cons rfl .nil))))))))) (Nat.le_of_ble_eq_true rfl) rfl ?_
   intro w9 S
   refine We<|Ws<|Wg<|M' h1 ?_
   refine WL.w (R.loadBN (i:=0) (vs:=[p,q,t,(str b[m].fReason),u,(str b[m].fBody),(int b[m].fRequested),(int b[m].fReceived)]) S rfl rfl lay36 rfl rfl)<|B hy fun bb hbb hy=>?_
   refine W.callvF S rfl rfl (F lr S.holds b[m] q1 q2 q3 q4 bb hbb) ?_
   rintro _ a7 a8 rfl S
   refine No<|We ?_
   cases bb with
   | true =>
    refine CF rfl<|Wk<|Wg<|M' h6<|Lg<|A<|We ?_
    cases hy
    refine ⟨rfl,m+1,cur,rfl,j,h1,k,?_,hsz,D.skip hmn,S.drop _ (.cons _ (.refl _))⟩
    show int (wr ((m:Int)+1))=int ((m+1:Nat):Int)
    rw [wr_eq ⟨by omega,by omega⟩]; rfl
   | false =>
    refine CT rfl<|Ws<|Wg<|M' j<|M' k ?_
    refine WL.w (R.loadBN (i:=0) (vs:=[p,q,t,(str b[m].fReason),u,(str b[m].fBody),(int b[m].fRequested),(int b[m].fReceived)]) S rfl rfl lay36 rfl rfl) ?_
    have hKm:K.length<m:=D.1
    refine WL.w (R.idxN (m:=(K.length:Int)) rfl rfl el23 ⟨by omega,by omega⟩) ?_
    refine W.storeO (i:=1) (o:=K.length*8) S rfl rfl rfl lay36 rfl (AllOne.all (l:=[p,q,t,(str b[m].fReason),u,(str b[m].fBody),(int b[m].fRequested),(int b[m].fReceived)]) (.cons (Sl.oneC q1) (.cons (Sl.oneC q2) (.cons (Sl.oneC q3) (.cons rfl (.cons (Sl.oneC q4) (.cons rfl (.cons rfl (.cons rfl .nil))))))))) (by omega) ?_
    intro a9 cur' hcur S
    have hcur:cur'.toList=cur.toList.take (K.length*8)++[p,q,t,(str b[m].fReason),u,(str b[m].fBody),(int b[m].fRequested),(int b[m].fReceived)]++cur.toList.drop (K.length*8+8):=hcur
    have D2:=D.keep hmn aq hcur
    refine We<|Wg<|M' k<|Lg<|A<|We<|Wg<|M' h6<|Lg<|A<|We ?_
    cases hy
    refine ⟨rfl,m+1,cur',rfl,j,h1,?_,?_,?_,D2,S.drop _ (.cons _ (.refl _))⟩
    ·show int (wr ((K.length:Int)+1))=int (((K++[b[m]]).length:Nat):Int)
     rw [wr_eq ⟨by omega,by omega⟩,List.length_append]; rfl
    ·show int (wr ((m:Int)+1))=int ((m+1:Nat):Int)
     rw [wr_eq ⟨by omega,by omega⟩]; rfl
    rw [← Array.length_toList,hcur]
    simp only [List.length_append,List.length_take,List.length_drop,List.length_cons,List.length_nil]
    have hcl:cur.toList.length=cap*8:=hsz
    rw [hcl]
    omega
  refine CF hcm<|Wx ?_
  cases hy
  obtain rfl:=hyr
  have hcm:=of_decide_eq_false hcm
  exact ⟨m,cur,j,k,by omega,hsz,D,S⟩
 rintro f w ⟨m,cur,j,k,hm,hsz,D,S⟩
 have hKm:=D.1
 have hmp:=D.2.1
 obtain ⟨kc,hkc,hkC⟩:=D.front
 refine Ws<|Wg<|M' j<|M' k ?_
 refine WL.w (R.sliceLo rfl rfl el23 (by omega) (by omega))<|W.clearO (α:=GEntry) (i:=0) S el23 (fun z hz=>by rw [zer36] at hz; obtain rfl:=oi hz; rfl) rfl rfl (by show r.length*8+(b.length - r.length)*8≤cur.size; omega) ?_
 intro ba cur2 az a0 S
 refine We<|Ws<|Wg<|M' j<|M' k ?_
 refine WL.w (R.sliceHi rfl rfl el23 (by omega))<|A<|We ?_
 refine WP.ret (OutS.one (L':=[.obj g (.cells cur2 36 (0,0))]) rfl lr S rfl ?_)
 exact ⟨_,rfl,.inr ⟨g,cap,cur2,kc,rfl,rfl,by omega,hcm,by rw [az]; exact hsz,a0.trans hkc,hkC⟩⟩
theorem zJ4 {w0 ws:World} {H0 Hs:Hp} {L2:List Ent} (an:GTable) {a7:Value} {ao:Value} (S:St w0 H0 ws Hs (L2)) (cg:Sl Hs a7 an.fAxes) (c:Sl Hs ao an.fEntries) {r:GTable} (h:zGk an=some r) :
  ConS Tryz.prog 44 [(agg [a7,ao])] w0 H0 ws Hs L2 (fun H' v L'=>∃ u1 u2:Value,∃ e1:Ent,L'=[e1]∧v=(agg [u1,u2])∧Sl H' u1 r.fAxes∧MR (α:=GEntry) H' e1 36 u2 r.fEntries):=by
 refine ConS.mk (N:=26) Tryz.func44 rfl rfl kr rfl<|Ws<|Wg ?_
 refine W.box [a7,ao] S rfl rfl ?_
 intro b1 w2 S
 refine W.alloc [(.slice none 0 0),(.slice none 0 0)] S zer25 ?_
 intro b3 w4 S
 refine We<|Ws<|Wg<|Fb ?_
 refine Lo 1 S<|B h fun r5 ci h=>W.call S rfl (zIm S.holds an.fAxes cg ci) ?_
 rintro v6 w7 H8 b4 S bo
 have c:=c.up b4
 refine WL.w (R.build [(0,v6)] [v6,(.slice none 0 0)] bp25 zer25 rfl (by obtain ⟨_,_,rfl,_⟩:=bo; rfl)) ?_
 refine W.alloc [(.slice none 0 0),(.slice none 0 0)] S zer25 ?_
 intro a0 cu S
 refine W.store (i:=0) [v6,(.slice none 0 0)] S rfl rfl rfl lay25 rfl (AllOne.all (l:=[v6,(.slice none 0 0)]) (.cons (Sl.oneC bo) (.cons rfl .nil))) (Nat.le_of_ble_eq_true rfl) rfl ?_
 intro cv S
 refine We<|Ws<|Ws<|Wg<|Fb ?_
 refine Lo 2 S<|Nq c<|M<|We ?_
 obtain ⟨a8,bp⟩:∃ v:Value,v=.slice none 0 0:=⟨_,rfl⟩
 have cj:MR (α:=GEntry) H8 (.row a8 36 8 0) 36 a8 []:=by rw [bp]; exact MR.nil
 replace S:=(show ∀ {w:World},St w0 H0 w H8 (.box a0 25 [v6,(.slice none 0 0)] :: .box b3 25 [(.slice none 0 0),(.slice none 0 0)] :: .box b1 25 [a7,ao] :: L2)→St w0 H0 w H8 (.box a0 25 [v6,a8] :: .box b3 25 [(.slice none 0 0),(.slice none 0 0)] :: .box b1 25 [a7,ao] :: L2) from fun S=>by rw [bp]; exact S) S
 replace S:=St.addNilV bp S 36 8
 refine B h fun bq ck h=>WP.cut (fun f w=>match bq with | (b5,b6)=>∃ (a1:Hp) (aq:Value) (ar:Value) (a9:Ent),f 2=(ptr b3 0)∧f 3=(ptr a0 0)∧Sl a1 aq b5∧MR (α:=GEntry) a1 a9 36 ar b6∧Hp.le Hs a1∧St w0 H0 w a1 (a9 :: .box a0 25 [aq,ar] :: .box b3 25 [(.slice none 0 0),(.slice none 0 0)] :: L2)) ?_ ?_
 ·refine Wb ?_
  refine WP.loopM (zDY an) (fun s f w=>match s with | (b7,b8,b9)=>∃ (au:Hp) (u:Value) (bk:Value) (bn:Ent),f 2=(ptr b3 0)∧f 3=(ptr a0 0)∧f 11=ao∧f 12=(int (an.fEntries.length:Int))∧f 13=(int b7)∧Sl au ao an.fEntries∧Sl au u b8∧MR (α:=GEntry) au bn 36 bk b9∧Hp.le Hs au∧St w0 H0 w au (bn :: .box a0 25 [u,bk] :: .box b3 25 [(.slice none 0 0),(.slice none 0 0)] :: L2)) (0,r5,([]:List GEntry)) bq ck ?_ ?_
  ·exact ⟨H8,v6,a8,(.row a8 36 8 0),rfl,rfl,rfl,rfl,rfl,c,bo,cj,b4,(S.drop _ (.cons_cons _ (.cons_cons _ (.cons_cons _ (.cons _ (.refl _))))))⟩
  intro s f w hI cw d cl
  obtain ⟨b7,b8,b9⟩:=s
  obtain ⟨au,u,bk,bn,ba,aj,bb,bc,a2,c,q,t,bd,S⟩:=hI
  refine Ws<|Wg<|La' a2 bc<|We<|Ws ?_
  rcases condE d with ⟨br,d⟩ | ⟨br,d⟩
  ·refine CT br<|Wk<|Ws<|Wb<|Ws<|Wg<|B d fun k cm d=>W.idx (α:=GEntry) c bb a2 el23 cm ?_
   rintro cx _ cn ⟨be,bf,bg,bh,rfl,x,z,aa,ab⟩
   refine WL.w (R.loadHN (vs:=[be,bf,bg,(str k.fReason),bh,(str k.fBody),(int k.fRequested),(int k.fReceived)]) S rfl cn lay36 rfl rfl) ?_
   refine W.alloc [(.slice none 0 0),(.slice none 0 0),(.slice none 0 0),(str []),(.slice none 0 0),(str []),(int 0),(int 0)] S zer36 ?_
   intro cy cz S
   refine W.store (i:=0) [be,bf,bg,(str k.fReason),bh,(str k.fBody),(int k.fRequested),(int k.fReceived)] S rfl rfl rfl lay36 rfl (AllOne.all (l:=[be,bf,bg,(str k.fReason),bh,(str k.fBody),(int k.fRequested),(int k.fReceived)]) (.cons (Sl.oneC x) (.cons (Sl.oneC z) (.cons (Sl.oneC aa) (.cons rfl (.cons (Sl.oneC ab) (.cons rfl (.cons rfl (.cons rfl .nil))))))))) (Nat.le_of_ble_eq_true rfl) rfl ?_
   intro c0 S
   refine We<|WP.draw kr 8 rfl (bm 8 0) rfl ?_
   have S:=S.drew
   refine At_ 0 8 1 rfl (fun _=>(R.fieldB aj zFh)) ?_
   refine WA.two (i:=1) (j:=2) (bm 8 3) (bm 8 5) rfl rfl kr rfl rfl ?_ ?_
   ·refine Lo 2 S<|We<|WA.one (i:=2) (bm 8 7) rfl kr rfl ?_
    refine WL.w (R.loadBN (i:=0) (vs:=[be,bf,bg,(str k.fReason),bh,(str k.fBody),(int k.fRequested),(int k.fReceived)]) S rfl rfl lay36 rfl rfl)<|We<|WA.one (i:=3) (bm 8 15) rfl kr rfl<|B d fun p bi d=>W.call S rfl (zCf S.holds k x z aa ab bi) ?_
    rintro ca cb cc o S ⟨a3,a4,a5,a6,rfl,ac,ad,ae,af⟩
    have c:=c.up o
    have x:=x.up o
    have z:=z.up o
    have aa:=aa.up o
    have ab:=ab.up o
    have t:=MR.mono t o
    have q:=q.up o
    refine We<|WA.one (i:=4) (bm 8 31) rfl kr rfl<|W.bslice (α:=GEntry) [(agg [a3,a4,a5,(str p.fReason),a6,(str p.fBody),(int p.fRequested),(int p.fReceived)])] ([p]:List GEntry) S el23 rfl rfl rfl (by decide) (Go.Eng.encS ⟨rfl,_,_,_,_,rfl,ac,ad,ae,af⟩ enc0) ?_
    intro bs bt av b aw S
    have c:=c.up b
    have x:=x.up b
    have z:=z.up b
    have aa:=aa.up b
    have ab:=ab.up b
    have t:=MR.mono t b
    have ac:=ac.up b
    have ad:=ad.up b
    have ae:=ae.up b
    have af:=af.up b
    have q:=q.up b
    refine We<|WA.one (i:=5) (bm 8 63) rfl kr rfl<|B d fun bu ax d=>W.appM (α:=GEntry) (i:=2) S el23 rfl rfl rfl t aw ax ?_
    intro ah ay bv ai S
    refine We ?_
    refine At_ 6 8 127 rfl (fun _=>(R.fieldB aj zFh))<|WA.one (i:=7) (bm 8 255) rfl kr rfl ?_
    refine W.storeMR (α:=GEntry) (i:=3) [u,ah] S ai rfl rfl rfl lay23 (Nat.le_of_ble_eq_true rfl) rfl ?_
    intro bw S
    refine We<|WA.done kr<|Wg<|Lg' a2 rfl<|M<|We ?_
    cases d
    exact ⟨rfl,⟨av,u,ah,(ay),ba,aj,bb,bc,rfl,c,q,ai,((bd.trans o).trans b),(S.drop _ (.cons _ (.cons _ (.cons_cons _ (.cons_cons _ (.cons_cons _ (.refl _)))))))⟩⟩
   refine WL.w (R.loadBN (i:=0) (vs:=[be,bf,bg,(str k.fReason),bh,(str k.fBody),(int k.fRequested),(int k.fReceived)]) S rfl rfl lay36 rfl rfl)<|We ?_
   refine WA.two (i:=1) (j:=3) (bm 8 7) (bm 8 13) rfl rfl kr rfl rfl ?_ ?_
   ·refine Lo 2 S<|We<|WA.one (i:=3) (bm 8 15) rfl kr rfl<|B d fun p bi d=>W.call S rfl (zCf S.holds k x z aa ab bi) ?_
    rintro ca cb cc o S ⟨a3,a4,a5,a6,rfl,ac,ad,ae,af⟩
    have c:=c.up o
    have x:=x.up o
    have z:=z.up o
    have aa:=aa.up o
    have ab:=ab.up o
    have t:=MR.mono t o
    have q:=q.up o
    refine We<|WA.one (i:=4) (bm 8 31) rfl kr rfl<|W.bslice (α:=GEntry) [(agg [a3,a4,a5,(str p.fReason),a6,(str p.fBody),(int p.fRequested),(int p.fReceived)])] ([p]:List GEntry) S el23 rfl rfl rfl (by decide) (Go.Eng.encS ⟨rfl,_,_,_,_,rfl,ac,ad,ae,af⟩ enc0) ?_
    intro bs bt av b aw S
    have c:=c.up b
    have x:=x.up b
    have z:=z.up b
    have aa:=aa.up b
    have ab:=ab.up b
    have t:=MR.mono t b
    have ac:=ac.up b
    have ad:=ad.up b
    have ae:=ae.up b
    have af:=af.up b
    have q:=q.up b
    refine We<|WA.one (i:=5) (bm 8 63) rfl kr rfl<|B d fun bu ax d=>W.appM (α:=GEntry) (i:=2) S el23 rfl rfl rfl t aw ax ?_
    intro ah ay bv ai S
    refine We ?_
    refine At_ 6 8 127 rfl (fun _=>(R.fieldB aj zFh))<|WA.one (i:=7) (bm 8 255) rfl kr rfl ?_
    refine W.storeMR (α:=GEntry) (i:=3) [u,ah] S ai rfl rfl rfl lay23 (Nat.le_of_ble_eq_true rfl) rfl ?_
    intro bw S
    refine We<|WA.done kr<|Wg<|Lg' a2 rfl<|M<|We ?_
    cases d
    exact ⟨rfl,⟨av,u,ah,(ay),ba,aj,bb,bc,rfl,c,q,ai,((bd.trans o).trans b),(S.drop _ (.cons _ (.cons _ (.cons_cons _ (.cons_cons _ (.cons_cons _ (.refl _)))))))⟩⟩
   refine B d fun p bi d=>W.call S rfl (zCf S.holds k x z aa ab bi) ?_
   rintro ca cb cc o S ⟨a3,a4,a5,a6,rfl,ac,ad,ae,af⟩
   have c:=c.up o
   have q:=q.up o
   have t:=MR.mono t o
   refine We ?_
   refine WA.two (i:=1) (j:=4) (bm 8 15) (bm 8 29) rfl rfl kr rfl rfl ?_ ?_
   ·refine Lo 2 S<|We<|WA.one (i:=4) (bm 8 31) rfl kr rfl<|W.bslice (α:=GEntry) [(agg [a3,a4,a5,(str p.fReason),a6,(str p.fBody),(int p.fRequested),(int p.fReceived)])] ([p]:List GEntry) S el23 rfl rfl rfl (by decide) (Go.Eng.encS ⟨rfl,_,_,_,_,rfl,ac,ad,ae,af⟩ enc0) ?_
    intro bs bt av b aw S
    have c:=c.up b
    have ac:=ac.up b
    have ad:=ad.up b
    have ae:=ae.up b
    have af:=af.up b
    have t:=MR.mono t b
    have q:=q.up b
    refine We<|WA.one (i:=5) (bm 8 63) rfl kr rfl<|B d fun bu ax d=>W.appM (α:=GEntry) (i:=2) S el23 rfl rfl rfl t aw ax ?_
    intro ah ay bv ai S
    refine We ?_
    refine At_ 6 8 127 rfl (fun _=>(R.fieldB aj zFh))<|WA.one (i:=7) (bm 8 255) rfl kr rfl ?_
    refine W.storeMR (α:=GEntry) (i:=3) [u,ah] S ai rfl rfl rfl lay23 (Nat.le_of_ble_eq_true rfl) rfl ?_
    intro bw S
    refine We<|WA.done kr<|Wg<|Lg' a2 rfl<|M<|We ?_
    cases d
    exact ⟨rfl,⟨av,u,ah,(ay),ba,aj,bb,bc,rfl,c,q,ai,((bd.trans o).trans b),(S.drop _ (.cons _ (.cons _ (.cons_cons _ (.cons_cons _ (.cons_cons _ (.refl _)))))))⟩⟩
   refine W.bslice (α:=GEntry) [(agg [a3,a4,a5,(str p.fReason),a6,(str p.fBody),(int p.fRequested),(int p.fReceived)])] ([p]:List GEntry) S el23 rfl rfl rfl (by decide) (Go.Eng.encS ⟨rfl,_,_,_,_,rfl,ac,ad,ae,af⟩ enc0) ?_
   intro bs bt av b aw S
   have c:=c.up b
   have q:=q.up b
   have t:=MR.mono t b
   refine We<|WA.one (i:=1) (bm 8 31) rfl kr rfl ?_
   refine Lo 3 S<|We<|WA.one (i:=5) (bm 8 63) rfl kr rfl<|B d fun bu ax d=>W.appM (α:=GEntry) (i:=2) S el23 rfl rfl rfl t aw ax ?_
   intro ah ay bv ai S
   refine We ?_
   refine At_ 6 8 127 rfl (fun _=>(R.fieldB aj zFh))<|WA.one (i:=7) (bm 8 255) rfl kr rfl ?_
   refine W.storeMR (α:=GEntry) (i:=3) [u,ah] S ai rfl rfl rfl lay23 (Nat.le_of_ble_eq_true rfl) rfl ?_
   intro bw S
   refine We<|WA.done kr<|Wg<|Lg' a2 rfl<|M<|We ?_
   cases d
   exact ⟨rfl,⟨av,u,ah,(ay),ba,aj,bb,bc,rfl,c,q,ai,((bd.trans o).trans b),(S.drop _ (.cons _ (.cons _ (.cons_cons _ (.cons_cons _ (.cons_cons _ (.refl _)))))))⟩⟩
  refine CF br<|Wx ?_
  cases d
  obtain rfl:=cl
  exact ⟨au,u,bk,(bn),ba,aj,q,t,bd,S⟩
 intro f w hM
 obtain ⟨b5,b6⟩:=bq
 obtain ⟨a1,aq,ar,a9,cd,co,ce,cf,cp,S⟩:=hM
 refine Ws<|Wg ?_
 refine WL.w (R.loadBN (i:=1) (vs:=[aq,ar]) S co rfl lay25 rfl rfl) ?_
 refine W.store (i:=2) [aq,ar] S cd rfl rfl lay25 rfl (AllOne.all (l:=[aq,ar]) (.cons (Sl.oneC ce) (.cons (MR.oneC cf) .nil))) (Nat.le_of_ble_eq_true rfl) rfl ?_
 intro c1 S
 refine We ?_
 cases h
 have S3:=S
 have S3:=S3.front 0 rfl
 replace S3:St w0 H0 _ a1 (a9 :: L2):=S3.drop _ (.cons_cons _ (.cons _ (.cons _ (.refl _))))
 refine WP.ret (OutS.one (L':=[a9]) rfl cp S3 (Res.cellB (i:=2) (cs:=[aq,ar]) S cd rfl lay25 rfl rfl) ?_)
 exact ⟨_,_,_,rfl,rfl,ce,cf⟩
end Go.Proofs
