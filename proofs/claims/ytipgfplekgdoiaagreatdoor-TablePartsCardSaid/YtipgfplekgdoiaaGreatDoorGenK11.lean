/- A part. -/
import Derived.Test.YtipgfplekgdoiaaGreatDoorEng38
import Derived.Test.YtipgfplekgdoiaaGreatDoorEng36
import Derived.Test.YtipgfplekgdoiaaGreatDoorGenK10
namespace Go.Proofs
set_option maxHeartbeats 4000000
set_option maxRecDepth 10000
open Go.Eng Go.Eng.Pure
set_option linter.unusedVariables false
theorem zJP {w0:World} {q:Hp} (hw:Holds w0 q) (x:(List GAxis)) (b:GEntry) {t:Value} {u:Value} {aj:Value} {ak:Value} {al:Value} (o:Sl q t x) (j:Sl q u b.fKeys) (be:Sl q aj b.fVary) (bf:Sl q ak b.fSnapshot) (bz:Sl q al b.fFields) {r:Bool} (h:zGM x b=some r) :
  Cb Tryz.prog 62 [t,(agg [u,aj,ak,(str b.fReason),al,(str b.fBody),(int b.fRequested),(int b.fReceived)])] w0 q r:=by
 refine CM 58 Tryz.func62 hw fun S=>?_
 refine Ws<|Wg ?_
 refine W.box [u,aj,ak,(str b.fReason),al,(str b.fBody),(int b.fRequested),(int b.fReceived)] S rfl rfl ?_
 intro b1 w2 S
 refine A<|We<|Ws<|Ws<|Wg<|Fb ?_
 refine Lo 0 S<|Nq j<|La<|M ?_
 refine WL.grp 5 [14,15,16,17] 18 (boo ((decide ((b.fKeys.length:Int)<1))||(decide (64<(b.fKeys.length:Int))))) ?_ ?_
 ·rcases boolE (decide ((b.fKeys.length:Int)<1)) with p | p
  ·refine Gn p<|Gn p<|Gn p<|Gn p<|Pt p ?_
   exact We ⟨(orT p),ag,rfl⟩
  refine Gy p<|Fb<|Gy p ?_
  refine Lo 0 S<|Gy p<|Nq j<|Gy p<|Lc<|Pf p ?_
  exact We ⟨(orF p),ag,rfl⟩
 intro us
 refine M ?_
 refine WL.grp 9 [20,21,22,23,24,25,26,27] 28 (boo (((decide ((b.fKeys.length:Int)<1))||(decide (64<(b.fKeys.length:Int))))||(decide (0<(wr ((b.fVary.length:Int)+(b.fSnapshot.length:Int))))))) ?_ ?_
 ·rcases boolE ((decide ((b.fKeys.length:Int)<1))||(decide (64<(b.fKeys.length:Int)))) with c | c
  ·refine Gn c<|Gn c<|Gn c<|Gn c<|Gn c<|Gn c<|Gn c<|Gn c<|Pt c ?_
   exact We ⟨(orT c),ag,rfl⟩
  refine Gy c<|Fb<|Gy c ?_
  refine Lo 0 S<|Gy c<|Nq be<|Gy c<|Fb<|Gy c ?_
  refine Lo 0 S<|Gy c<|Nq bf ?_
  refine Gy c<|Lg<|Gy c<|Lc<|Pf c ?_
  exact We ⟨(orF c),ag,rfl⟩
 intro us
 refine We ?_
 rcases condE h with ⟨am,h⟩ | ⟨am,h⟩
 ·refine CT am<|Ws<|Wg<|A<|We ?_
  exact WP.ret (Rb h S)
 refine CF am<|Wk<|Ws<|Ws<|Wg<|Fb ?_
 refine Lo 0 S<|Nq j<|M<|We<|B h fun an bg h=>WP.cut (fun f w=>match an with | .inl _=>∃ (ay:Hp),St w0 q w ay [] | .inr _=>False) ?_ ?_
 ·refine Wb ?_
  refine WP.loopM (zCO x b) (fun s f w=>match s with | ae=>∃ (H8:Hp),f 0=t∧f 30=u∧f 31=(int (b.fKeys.length:Int))∧f 32=(int ae)∧Sl H8 t x∧Sl H8 u b.fKeys∧St w0 q w H8 []) 0 an bg ?_ ?_
  ·exact ⟨q,rfl,rfl,rfl,rfl,o,j,(S.pk [])⟩
  intro ae f w hI b3 k ao
  obtain ⟨H8,h9,az,a0,aq,o,j,S⟩:=hI
  refine Ws<|Wg<|La' aq a0<|We<|Ws ?_
  rcases condE k with ⟨ar,k⟩ | ⟨ar,k⟩
  ·refine CT ar<|Wk<|Ws<|Wb<|Ws<|Wg<|B k fun a1 bh k=>W.idx (α:=(List Str)) j az aq el33 bh ?_
   rintro b4 _ bi ⟨a2,rfl,z⟩
   refine Lq S bi<|A<|We<|Ws<|Ws<|Wg<|M<|Nq z<|M' h9<|Nq o<|Lf<|We ?_
   rcases condE k with ⟨au,k⟩ | ⟨au,k⟩
   ·refine CT au<|Ws<|Wg<|A<|We ?_
    obtain rfl:=oi k
    obtain rfl:=ao
    exact WP.ret (Rb h S)
   refine CF au<|Wk<|Ws<|Wg<|M' h9<|Nq o<|M<|We<|B k fun av bj k=>WP.cut (fun f w=>match av with | .inl _=>∃ (ad:Hp),f 0=t∧f 30=u∧f 31=(int (b.fKeys.length:Int))∧f 32=(int ae)∧Sl ad t x∧Sl ad u b.fKeys∧St w0 q w ad [] | .inr _=>False) ?_ ?_
   ·refine Wb ?_
    refine WP.loopM (zBq x a1) (fun s f w=>match s with | a3=>∃ (ac:Hp),f 0=t∧f 6=a2∧f 30=u∧f 31=(int (b.fKeys.length:Int))∧f 32=(int ae)∧f 41=t∧f 42=(int (x.length:Int))∧f 43=(int a3)∧Sl ac t x∧Sl ac a2 a1∧Sl ac u b.fKeys∧St w0 q w ac []) 0 av bj ?_ ?_
    ·exact ⟨H8,h9,rfl,az,a0,aq,rfl,rfl,rfl,o,z,j,S⟩
    intro a3 f w hI b5 d a4
    obtain ⟨ac,a5,a6,a7,a8,a9,ba,bb,af,o,z,j,S⟩:=hI
    refine Ws<|Wg<|La' af bb<|We<|Ws ?_
    rcases condE d with ⟨aw,d⟩ | ⟨aw,d⟩
    ·refine CT aw<|Wk<|Ws<|Wb<|Ws<|Wg<|M' af<|B d fun ah bk d=>W.idx (α:=GAxis) o ba af el22 bk ?_
     rintro b6 _ bn ⟨ai,rfl,bc⟩
     refine WL.w (R.loadHN (vs:=[(str ah.fName),ai]) S rfl bn lay68 rfl rfl) ?_
     refine W.alloc [(str []),(.slice none 0 0)] S zer68 ?_
     intro b7 b8 S
     refine A ?_
     refine W.store (i:=0) [(str ah.fName),ai] S rfl rfl rfl lay68 rfl (AllOne.all (l:=[(str ah.fName),ai]) (.cons rfl (.cons (Sl.oneC bc) .nil))) (Nat.le_of_ble_eq_true rfl) rfl ?_
     intro b9 S
     refine We<|Ws<|WP.quiet S kr kr<|QFb ?_
     refine QB 0 ai<|QM' a6<|QM<|B d fun bd bo d=>WQ.idx (α:=Str) z rfl rfl el34 bo ?_
     rintro ca _ bp rfl
     refine QH (str bd) bp<|B d fun bq br d=>WQ.call (v:=boo bq) rfl (fun w H' hq S=>zBr S.holds ah.fValues bd (bc.up hq) br)<|QNo<|WQ.nil ?_
     intro cb bs bt S
     have ⟨o,z,j⟩:=U3 bt o z j
     rcases condE d with ⟨ax,d⟩ | ⟨ax,d⟩
     ·refine CT ax<|Ws<|Wg<|A<|We ?_
      obtain rfl:=oi d
      obtain rfl:=a4
      obtain rfl:=oi k
      obtain rfl:=ao
      exact WP.ret (Rb h S)
     refine CF ax<|Wk<|Wg<|Lg' af rfl<|M<|We ?_
     obtain rfl:=oi d
     exact ⟨rfl,⟨bs,a5,a6,a7,a8,a9,ba,bb,rfl,o,z,j,(S.pk [])⟩⟩
    refine CF aw<|Wx ?_
    obtain rfl:=oi d
    obtain rfl:=a4
    exact ⟨ac,a5,a7,a8,a9,o,j,S⟩
   intro f w hM
   rcases av with _ | e
   ·obtain ⟨ad,bu,bv,bw,bx,o,j,S⟩:=hM
    refine Wg<|Lg' bx rfl<|M<|We ?_
    obtain rfl:=oi k
    exact ⟨rfl,⟨ad,bu,bv,bw,rfl,o,j,S⟩⟩
   exact hM.elim
  refine CF ar<|Wx ?_
  obtain rfl:=oi k
  obtain rfl:=ao
  exact ⟨H8,S⟩
 intro f w hM
 rcases an with _ | e
 ·obtain ⟨ay,S⟩:=hM
  refine Ws<|Wg<|A<|We ?_
  exact WP.ret (Rb h S)
 exact hM.elim
theorem zAt {l:World} {d:Hp} (hw:Holds l d) (j:(List Str)) (o:(List Str)) {p:Value} {q:Value} (c:Sl d p j) (i:Sl d q o) {r:Bool} (h:zAa j o=some r) :
  Cb Tryz.prog 73 [p,q] l d r:=by
 refine CM 26 Tryz.func73 hw fun S=>?_
 refine Ws<|Wg<|A<|We<|Ws<|Ws<|Wg<|M<|Nq c<|M<|Nq i<|Lf ?_
 refine We ?_
 rcases condE h with ⟨t,h⟩ | ⟨t,h⟩
 ·refine CT t<|Ws<|Wg<|A<|We ?_
  exact WP.ret (Rb h S)
 refine CF t<|Wk<|Ws<|Ws<|Wg<|M<|Nq c<|M<|We<|B h fun u ah h=>WP.cut (fun f w=>match u with | .inl _=>∃ (H8:Hp),St l d w H8 [] | .inr _=>False) ?_ ?_
 ·refine Wb ?_
  refine WP.loopM (zAo j o) (fun s f w=>match s with | ab=>∃ (k:Hp),f 0=p∧f 1=q∧f 12=(int (j.length:Int))∧f 13=(int ab)∧Sl k p j∧Sl k q o∧St l d w k []) 0 u ah ?_ ?_
  ·exact ⟨d,rfl,rfl,rfl,rfl,c,i,S⟩
  intro ab f w hI y9 b ac
  obtain ⟨k,h3,h4,h5,v,c,i,S⟩:=hI
  refine Ws<|Wg<|La' v h5<|We<|Ws ?_
  rcases condE b with ⟨x,b⟩ | ⟨x,b⟩
  ·refine CT x<|Wk<|Ws<|Wb<|Ws<|Wg<|M' v<|A<|We<|Ws<|WP.quiet S kr kr<|QM' h3 ?_
   refine QM<|B b fun ai aj b=>WQ.idx (α:=Str) c rfl rfl el34 aj ?_
   rintro ar _ ak rfl
   refine QH (str ai) ak<|QM' h4<|QM<|B b fun al am b=>WQ.idx (α:=Str) i rfl rfl el34 am ?_
   rintro au _ an rfl
   refine QH (str al) an<|QNb<|WQ.nil ?_
   intro av ao ap S
   have ⟨c,i⟩:=U2 ap c i
   rcases condE b with ⟨z,b⟩ | ⟨z,b⟩
   ·refine CT z<|Ws<|Wg<|A<|We ?_
    obtain rfl:=oi b
    obtain rfl:=ac
    exact WP.ret (Rb h S)
   refine CF z<|Wk<|Wg<|Lg' v rfl<|M<|We ?_
   obtain rfl:=oi b
   exact ⟨rfl,⟨ao,h3,h4,h5,rfl,c,i,S⟩⟩
  refine CF x<|Wx ?_
  obtain rfl:=oi b
  obtain rfl:=ac
  exact ⟨k,S⟩
 intro f w hM
 rcases u with _ | e
 ·obtain ⟨H8,S⟩:=hM
  refine Ws<|Wg<|A<|We ?_
  exact WP.ret (Rb h S)
 exact hM.elim
theorem zIb {f:World} {i:Hp} (hw:Holds f i) (b:Str) (c:Str) (d:Str) {r:Bool} (h:zEw b c d=some r) :
  Cb Tryz.prog 112 [(str b),(str c),(str d)] f i r:=by
 refine CM 29 Tryz.func112 hw fun S=>?_
 refine Ws<|Wg<|A<|We<|Ws<|Wg<|M<|B h fun j k h=>W.call S rfl (zEi S.holds b k) ?_
 rintro p q t u S rfl
 refine A<|We<|Ws<|Wg<|M<|M<|B h fun v l h=>W.invoke S rfl rfl (zB9 S.holds j c l) ?_
 rintro x z H9 ab S rfl
 refine M ?_
 refine Ex ?_
 refine Ex<|A<|A<|We<|Ws<|Wg<|M<|M<|B h fun ac o h=>W.invoke S rfl rfl (zB9 S.holds j d o) ?_
 rintro ad ae af ah S rfl
 refine M ?_
 refine Ex ?_
 refine Ex<|A<|A<|We<|Ws<|Wg<|M<|M<|Na<|A ?_
 refine We ?_
 exact WP.ret (Rb h S)
theorem zFj {j ws:World} {k Hs:Hp} {l:List Ent} (d:Str) (f:Str) (o:(List GAxis)) (b:Int) {p:Value} {c:Nat} {q:Addr} (S:St j k ws Hs (.box c 3 [(int b)] :: l)) (t:At Hs q [p]) (u:Sl Hs p o) {r:(Bool×Int)} (h:zCx d f o b=some r) :
  ConS Tryz.prog 111 [(str d),(str f),(ptr c 0),(.pointer (some q))] j k ws Hs l (fun H' v L'=>L'=[.box c 3 [(int r.2)]]∧v=(boo r.1)):=by
 refine ConS.mk (N:=17) Tryz.func111 rfl rfl kr rfl<|Ws<|Wg<|A<|We<|Ws<|Wg ?_
 refine Lo 0 S<|Lg ?_
 refine W.store (i:=0) [(int (wr (b+1)))] S rfl rfl rfl lay3 rfl rfl (Nat.le_of_ble_eq_true rfl) rfl ?_
 intro w1 S
 refine We<|Ws<|Wg ?_
 refine Lq S t ?_
 refine Lo 0 S<|B h fun x z h=>W.idx (α:=GAxis) u rfl rfl el22 z ?_
 rintro a3 _ aa ⟨v5,rfl,R6⟩
 refine Fc ?_
 have ab:=At.add aa 0 (by simp)
 refine Lq S ab<|M<|M<|B h fun r8 ac h=>W.call S rfl (zIb S.holds x.fName d f ac) ?_
 rintro v9 al am ad S rfl
 refine A<|We ?_
 obtain rfl:=oi h
 refine WP.ret (OutS.one (L':=[.box c 3 [(int (wr (b+1)))]]) rfl ad S rfl ?_)
 exact ⟨rfl,rfl⟩
theorem zBo {k ws:World} {l Hs:Hp} {o:List Ent} (q:(List Str)) (x:(List Str)) (p:(List GAxis)) (z:Int) {aa:Value} {ab:Value} {vq00:Value} {c:Nat} {aq0:Addr} (S:St k l ws Hs (.box c 3 [(int z)] :: o)) (i:Sl Hs aa q) (j:Sl Hs ab x) (Aq0:At Hs aq0 [vq00]) (Rq00:Sl Hs vq00 p) {r:(Bool×Int)} (h:zAl q x p z=some r) :
  ConS Tryz.prog 110 [aa,ab,(.func (.func 111) #[] [(ptr c 0),(.pointer (some aq0))].toArray)] k l ws Hs o (fun H' v L'=>L'=[.box c 3 [(int r.2)]]∧v=(boo r.1)):=by
 refine ConS.mk (N:=32) Tryz.func110 rfl rfl kr rfl<|Ws<|Wg<|A<|We<|Ws<|Ws<|Wg<|M<|Nq i<|M<|Nq j ?_
 refine Lf<|We ?_
 rcases condE h with ⟨ae,h⟩ | ⟨ae,h⟩
 ·refine CT ae<|Ws<|Wg<|A<|We ?_
  obtain rfl:=oi h
  refine WP.ret (OutS.one (L':=[.box c 3 [(int z)]]) rfl lr S rfl ?_)
  exact ⟨rfl,rfl⟩
 refine CF ae<|Wk<|Ws<|Ws<|Wg<|M<|Nq i<|M<|We<|B h fun af av h=>WP.cut (fun f w=>match af with | .inl ah=>∃ (t:Hp),f 2=(.func (.func 111) #[] [(ptr c 0),(.pointer (some aq0))].toArray)∧At t aq0 [vq00]∧Sl t vq00 p∧Hp.le Hs t∧St k l w t (.box c 3 [(int ah)] :: o) | .inr _=>False) ?_ ?_
 ·refine Wb ?_
  refine WP.loopM (zAM q x p) (fun s f w=>match s with | (am,m9)=>∃ (d:Hp),f 1=ab∧f 2=(.func (.func 111) #[] [(ptr c 0),(.pointer (some aq0))].toArray)∧f 15=aa∧f 16=(int (q.length:Int))∧f 17=(int am)∧Sl d ab x∧At d aq0 [vq00]∧Sl d vq00 p∧Sl d aa q∧Hp.le Hs d∧St k l w d (.box c 3 [(int m9)] :: o)) (0,z) af av ?_ ?_
  ·exact ⟨Hs,rfl,rfl,rfl,rfl,rfl,j,Aq0,Rq00,i,lr,S⟩
  intro s f w hI a4 b an
  obtain ⟨am,m9⟩:=s
  obtain ⟨d,h3,h4,h5,h6,h8,j,Aq0,Rq00,i,aj,S⟩:=hI
  refine Ws<|Wg<|La' h8 h6<|We<|Ws ?_
  rcases condE b with ⟨ak,b⟩ | ⟨ak,b⟩
  ·refine CT ak<|Wk<|Ws<|Wb<|Ws<|Wg<|M' h8<|B b fun aw ax b=>W.idx (α:=Str) i h5 h8 el34 ax ?_
   rintro a5 _ ay rfl
   refine Lq S ay<|A<|A<|We<|Ws<|Wg<|M' h3<|M<|B b fun az a0 b=>W.idx (α:=Str) j rfl rfl el34 a0 ?_
   rintro a6 _ a1 rfl
   refine Lq S a1<|A<|We<|Ws<|Wg<|M' h4<|M<|M ?_
   replace S:St k l _ d (.box c 3 [(int m9)] :: o):=S
   refine B b fun ar a2 b=>W.callvS rfl rfl (zFj aw az p m9 S Aq0 Rq00 a2) ?_
   rintro a7 a8 au a9 u S ⟨rfl,rfl⟩
   replace S:St k l _ au (.box c 3 [(int ar.2)] :: o):=S
   have j:=j.up u
   have Aq0:=At.mono Aq0 u (by simp)
   have ⟨Rq00,i⟩:=U2 u Rq00 i
   refine No<|We ?_
   rcases condE b with ⟨al,b⟩ | ⟨al,b⟩
   ·refine CT al<|Ws<|Wg<|A<|We ?_
    obtain rfl:=oi b
    obtain rfl:=an
    obtain rfl:=oi h
    refine WP.ret (OutS.one (L':=[.box c 3 [(int ar.2)]]) rfl (aj.trans u) S rfl ?_)
    exact ⟨rfl,rfl⟩
   refine CF al<|Wk<|Wg<|Lg' h8 rfl<|M<|We ?_
   obtain rfl:=oi b
   exact ⟨rfl,⟨au,h3,h4,h5,h6,rfl,j,Aq0,Rq00,i,(aj.trans u),S⟩⟩
  refine CF ak<|Wx ?_
  obtain rfl:=oi b
  obtain rfl:=an
  exact ⟨d,h4,Aq0,Rq00,aj,S⟩
 intro f w hM
 rcases af with ah | e
 ·obtain ⟨t,ba,Aq0,Rq00,a3,S⟩:=hM
  refine Ws<|Wg<|A<|We ?_
  obtain rfl:=oi h
  refine WP.ret (OutS.one (L':=[.box c 3 [(int ah)]]) rfl a3 S rfl ?_)
  exact ⟨rfl,rfl⟩
 exact hM.elim
theorem zHg {c:World} {b:Hp} (hw:Holds c b) (l:(List GAxis)) (o:(List Str)) (p:(List Str)) {f:Value} {v:Value} {x:Value} (d:Sl b f l) (j:Sl b v o) (q:Sl b x p) {r:Bool} (h:zDl l o p=some r) :
  Cb Tryz.prog 78 [f,v,x] c b r:=by
 refine CM 17 Tryz.func78 hw fun S=>?_
 refine Ws<|Wg ?_
 refine W.box [f] S rfl (congrArg Array.toList (Sl.cellsOne d)) ?_
 intro z w2 S
 refine A<|We<|Ws<|Ws<|Wg<|M<|Nq j ?_
 refine Lo 0 S<|Nq d<|Lf<|We ?_
 rcases condE h with ⟨t,h⟩ | ⟨t,h⟩
 ·refine CT t<|Ws<|Wg<|A<|We ?_
  exact WP.ret (Rb h S)
 refine CF t<|Wk<|Ws<|Wg ?_
 refine W.alloc [(int 0)] S zer3 ?_
 intro k w5 S
 refine W.store (i:=0) [(int (-1))] S rfl rfl rfl lay3 rfl rfl (Nat.le_of_ble_eq_true rfl) rfl ?_
 intro w6 S
 refine We<|Ws<|Wg<|M<|M ?_
 obtain ⟨u,aa,ab,_,S⟩:=S.settle (i:=1) rfl
 replace S:St c b _ u [.box k 3 [(int (-1))]]:=S
 have ac:At u ⟨z,0,none⟩ [f]:=⟨_,_,rfl,ab,[],by simp⟩
 have ⟨d,j,q⟩:=U3 aa d j q
 refine WL.w (R.mkFunc (vs:=[(ptr k 0),(.pointer (some ⟨z,0,none⟩))]) rfl) ?_
 replace S:St c b _ u [.box k 3 [(int (-1))]]:=S
 refine B h fun ad ae h=>W.callS rfl (zBo o p l (-1) S j q ac d ae) ?_
 rintro ak al af am an S ⟨rfl,rfl⟩
 replace S:St c b _ af [.box k 3 [(int ad.2)]]:=S
 refine A<|We ?_
 exact WP.ret (Rb h S)
theorem zJS {i:World} {b:Hp} (hw:Holds i b) (c:(List Str)) (d:(List GAxis)) (f:(List Str)) {j:Value} {k:Value} {l:Value} {o:Addr} {p:Addr} (q:Sl b j c) (t:At b o [k]) (u:Sl b k d) (v:At b p [l]) (x:Sl b l f) {r:Bool} (h:zFC c d f=some r) :
  Cb Tryz.prog 77 [j,(.pointer (some o)),(.pointer (some p))] i b r:=by
 refine CM 9 Tryz.func77 hw fun S=>?_
 refine Ws<|Wg<|A<|We<|Ws<|Wg ?_
 refine Lq S t<|M ?_
 refine Lq S v<|B h fun r1 z h=>W.call S rfl (zHg S.holds d c f u q x z) ?_
 rintro v2 w3 H4 ae S rfl
 refine A<|We ?_
 exact WP.ret (Rb h S)
theorem zCz {j:World} {c:Hp} (hw:Holds j c) (i:(List (List Str))) (o:((List Str)→Option Bool)) {k:Value} {kp_f:FuncId} {cp_f:List Value} (d:Sl c k i) (Fp_f:∀ {w:World} {H:Hp},c.le H→Holds w H→∀ (x:(List Str)),∀ {z:Value},Sl H z x→∀ (rr:Bool),o x=some rr→Con Tryz.prog kp_f ([z]++cp_f) w H (fun H' v=>v=(boo rr))) {r:Int} (h:zAz i o=some r) :
  Ci Tryz.prog 109 [k,(.func (.func kp_f) #[] cp_f.toArray)] j c r:=by
 refine CM 19 Tryz.func109 hw fun S=>?_
 refine Ws<|Wg<|A<|We<|Ws<|Ws<|Wg<|M<|Nq d<|M<|We<|B h fun p ah h=>WP.cut (fun f w=>match p with | .inl _=>∃ (H7:Hp),St j c w H7 [] | .inr _=>False) ?_ ?_
 ·refine Wb ?_
  refine WP.loopM (zAR i o) (fun s f w=>match s with | ab=>∃ (l:Hp),f 0=k∧f 1=(.func (.func kp_f) #[] cp_f.toArray)∧f 7=(int (i.length:Int))∧f 8=(int ab)∧Sl l k i∧St j c w l []) 0 p ah ?_ ?_
  ·exact ⟨c,rfl,rfl,rfl,rfl,d,S⟩
  intro ab f w hI y8 b ac
  obtain ⟨l,h2,h3,h4,q,d,S⟩:=hI
  refine Ws<|Wg<|La' q h4<|We<|Ws ?_
  rcases condE b with ⟨t,b⟩ | ⟨t,b⟩
  ·refine CT t<|Wk<|Ws<|Wb<|Ws<|Wg<|M' q<|A<|We<|Ws<|Wg<|M' h3 ?_
   refine M' h2<|M<|B b fun ai aj b=>W.idx (α:=(List Str)) d rfl rfl el33 aj ?_
   rintro aq _ ak ⟨ar,rfl,al⟩
   refine Lq S ak<|B b fun au am b=>W.callv S rfl rfl (Fp_f (S.post.le) S.holds ai al _ am) ?_
   rintro av aw an ao S rfl
   have d:=d.up ao
   refine We ?_
   rcases condE b with ⟨u,b⟩ | ⟨u,b⟩
   ·refine CT u<|Ws<|Wg<|M<|A<|We ?_
    obtain rfl:=oi b
    obtain rfl:=ac
    exact WP.ret (Ri h S)
   refine CF u<|Wk<|Wg<|Lg' q rfl<|M<|We ?_
   obtain rfl:=oi b
   exact ⟨rfl,⟨an,h2,h3,h4,rfl,d,S⟩⟩
  refine CF t<|Wx ?_
  obtain rfl:=oi b
  obtain rfl:=ac
  exact ⟨l,S⟩
 intro f w hM
 rcases p with _ | e
 ·obtain ⟨H7,S⟩:=hM
  refine Ws<|Wg<|A<|We ?_
  exact WP.ret (Ri h S)
 exact hM.elim
theorem zBC {f:World} {b:Hp} (hw:Holds f b) (c:(List (List Str))) (d:((List Str)→Option Bool)) {i:Value} {kp_f:FuncId} {cp_f:List Value} (l:Sl b i c) (Fp_f:∀ {w:World} {H:Hp},b.le H→Holds w H→∀ (j:(List Str)),∀ {k:Value},Sl H k j→∀ (rr:Bool),d j=some rr→Con Tryz.prog kp_f ([k]++cp_f) w H (fun H' v=>v=(boo rr))) {r:Bool} (h:zAV c d=some r) :
  Cb Tryz.prog 76 [i,(.func (.func kp_f) #[] cp_f.toArray)] f b r:=by
 refine CM 9 Tryz.func76 hw fun S=>?_
 refine Ws<|Wg<|A<|We<|Ws<|Wg<|M<|M<|B h fun p o h=>W.call S rfl (zCz S.holds c d l (fun hle=>Fp_f (Hp.le.trans S.post.le hle)) o) ?_
 rintro q t u x S rfl
 refine Ld<|A<|We ?_
 exact WP.ret (Rb h S)
theorem zIJ {t:World} {c:Hp} (hw:Holds t c) (u:(List GAxis)) (b:GEntry) (v:(List Str)) {x:Value} {j:Value} {k:Value} {l:Value} {o:Value} {p:Value} (d:Sl c x u) (q:Sl c j b.fKeys) (ao:Sl c k b.fVary) (ap:Sl c l b.fSnapshot) (aq:Sl c o b.fFields) (f:Sl c p v) {r:Bool} (h:zGY u b v=some r) :
  Cb Tryz.prog 39 [x,(agg [j,k,l,(str b.fReason),o,(str b.fBody),(int b.fRequested),(int b.fReceived)]),p] t c r:=by
 refine CM 11 Tryz.func39 hw fun S=>?_
 refine Ws<|Wg ?_
 refine W.box [x] S rfl (congrArg Array.toList (Sl.cellsOne d)) ?_
 intro b1 w2 S
 refine W.box [j,k,l,(str b.fReason),o,(str b.fBody),(int b.fRequested),(int b.fReceived)] S rfl rfl ?_
 intro b3 w4 S
 refine W.box [p] S rfl (congrArg Array.toList (Sl.cellsOne f)) ?_
 intro z w6 S
 refine A<|We<|Ws<|Wg<|Fb ?_
 refine Lo 1 S ?_
 obtain ⟨H7,ai,aj,_,S⟩:=S.settle (i:=2) rfl
 replace S:St t c _ H7 [.box z 34 [p],.box b3 36 [j,k,l,(str b.fReason),o,(str b.fBody),(int b.fRequested),(int b.fReceived)]]:=S
 have aa:At H7 ⟨b1,0,none⟩ [x]:=⟨_,_,rfl,aj,[],by simp⟩
 have ⟨d,q,f⟩:=U3 ai d q f
 obtain ⟨af,ah,ak,_,S⟩:=S.settle (i:=0) rfl
 replace S:St t c _ af [.box b3 36 [j,k,l,(str b.fReason),o,(str b.fBody),(int b.fRequested),(int b.fReceived)]]:=S
 have al:At af ⟨z,0,none⟩ [p]:=⟨_,_,rfl,ak,[],by simp⟩
 have ⟨d,q,f⟩:=U3 ah d q f
 have aa:=At.mono aa ah (by simp)
 refine WL.w (R.mkFunc (vs:=[(.pointer (some ⟨b1,0,none⟩)),(.pointer (some ⟨z,0,none⟩))]) rfl)<|B h fun aw am h=>W.call S rfl (zBC S.holds b.fKeys (fun x0=>zFC x0 u v) q (fun hle hw x0=>fun q0 r h=>zJS hw x0 u v q0 (At.mono aa hle (by simp)) (d.up hle) (At.mono al hle (by simp)) (f.up hle) h) am) ?_
 rintro ax ay az a0 S rfl
 refine A<|We ?_
 exact WP.ret (Rb h S)
theorem zHL {o:World} {c:Hp} (hw:Holds o c) (d:(List Str)) (f:(List GAxis)) (b:GEntry) {p:Value} {q:Value} {i:Value} {j:Value} {k:Value} {l:Value} {t:Addr} {u:Addr} (v:Sl c p d) (x:At c t [q]) (z:Sl c q f) (aa:At c u [i,j,k,(str b.fReason),l,(str b.fBody),(int b.fRequested),(int b.fReceived)]) (ab:Sl c i b.fKeys) (ac:Sl c j b.fVary) (ad:Sl c k b.fSnapshot) (ae:Sl c l b.fFields) {r:Bool} (h:zCE d f b=some r) :
  Cb Tryz.prog 85 [p,(.pointer (some t)),(.pointer (some u))] o c r:=by
 refine CM 9 Tryz.func85 hw fun S=>?_
 refine Ws<|Wg<|A<|We<|Ws<|Wg ?_
 refine Lq S x ?_
 refine WL.w (R.loadHN (vs:=[i,j,k,(str b.fReason),l,(str b.fBody),(int b.fRequested),(int b.fReceived)]) S rfl aa lay36 rfl rfl)<|M<|B h fun r1 af h=>W.call S rfl (zIJ S.holds f b d z ab ac ad ae v af) ?_
 rintro v2 w3 H4 al S rfl
 refine A<|We ?_
 exact WP.ret (Rb h S)
theorem zFn {w0:World} {f:Hp} (hw:Holds w0 f) (ah:(List GAxis)) (c:GEntry) (b:GEntry) {af:Value} {u:Value} {v:Value} {x:Value} {z:Value} {aa:Value} {ab:Value} {ac:Value} {ad:Value} (j:Sl f af ah) (o:Sl f u c.fKeys) (aw:Sl f v c.fVary) (aj:Sl f x c.fSnapshot) (ba:Sl f z c.fFields) (p:Sl f aa b.fKeys) (k:Sl f ab b.fVary) (l:Sl f ac b.fSnapshot) (q:Sl f ad b.fFields) {r:Bool} (h:zC3 ah c b=some r) :
  Cb Tryz.prog 49 [af,(agg [u,v,x,(str c.fReason),z,(str c.fBody),(int c.fRequested),(int c.fReceived)]),(agg [aa,ab,ac,(str b.fReason),ad,(str b.fBody),(int b.fRequested),(int b.fReceived)])] w0 f r:=by
 refine CM 26 Tryz.func49 hw fun S=>?_
 refine Ws<|Wg ?_
 refine W.box [af] S rfl (congrArg Array.toList (Sl.cellsOne j)) ?_
 intro b1 w2 S
 refine W.box [u,v,x,(str c.fReason),z,(str c.fBody),(int c.fRequested),(int c.fReceived)] S rfl rfl ?_
 intro b3 w4 S
 refine W.box [aa,ab,ac,(str b.fReason),ad,(str b.fBody),(int b.fRequested),(int b.fReceived)] S rfl rfl ?_
 intro b5 w6 S
 refine A<|We<|Ws<|Ws<|Wg ?_
 refine Lo 2 S<|Nq j<|Le<|We ?_
 rcases condE h with ⟨am,h⟩ | ⟨am,h⟩
 ·refine CT am<|Ws<|Wg<|Fb ?_
  refine Lo 1 S<|Fb ?_
  refine Lo 0 S<|B h fun r8 ay h=>W.call S rfl (zAt S.holds c.fVary b.fVary aw k ay) ?_
  rintro v9 bf ap az S rfl
  have ⟨j,o,aj,p,k,l,q⟩:=U7 az j o aj p k l q
  refine M<|B h fun a0 t h=>WL.grpw 6 [16,17,18,19,20] 21 (boo a0) (fun w=>∃ H':Hp,ap.le H'∧St w0 f w H' [.box b5 36 [aa,ab,ac,(str b.fReason),ad,(str b.fBody),(int b.fRequested),(int b.fReceived)],.box b3 36 [u,v,x,(str c.fReason),z,(str c.fBody),(int c.fRequested),(int c.fReceived)],.box b1 22 [af]]) ?_ ?_
  ·rcases boolE r8 with d | d
   ·replace t:=condT t d
    refine Gy d<|Fb<|Gy d ?_
    refine Lo 1 S<|Gy d<|Fb<|Gy d ?_
    refine Lo 0 S<|Gy d<|B t fun bg a1 t=>W.call S rfl (zAt S.holds c.fSnapshot b.fSnapshot aj l a1) ?_
    rintro bh bi a2 aq S rfl
    have ⟨j,o,p,k,l,q⟩:=U6 aq j o p k l q
    refine Pt d ?_
    exact We ⟨(ob t),ag,⟨a2,aq,S⟩⟩
   replace t:=condF t d
   refine Gn d<|Gn d<|Gn d<|Gn d<|Gn d<|Pf d ?_
   exact We ⟨(ob t),ag,⟨ap,lr,S⟩⟩
  intro us bj ⟨bk,a3,S⟩
  have ⟨j,o,p,k,l,q⟩:=U6 a3 j o p k l q
  refine A<|We ?_
  exact WP.ret (Rb h S)
 refine CF am<|Wk<|Ws<|Wg<|Fb ?_
 refine Lo 1 S ?_
 obtain ⟨ar,a4,a5,_,S⟩:=S.settle (i:=2) rfl
 replace S:St w0 f _ ar [.box b5 36 [aa,ab,ac,(str b.fReason),ad,(str b.fBody),(int b.fRequested),(int b.fReceived)],.box b3 36 [u,v,x,(str c.fReason),z,(str c.fBody),(int c.fRequested),(int c.fReceived)]]:=S
 have an:At ar ⟨b1,0,none⟩ [af]:=⟨_,_,rfl,a5,[],by simp⟩
 have ⟨j,o,p,k,l,q⟩:=U6 a4 j o p k l q
 obtain ⟨au,av,a6,_,S⟩:=S.settle (i:=0) rfl
 replace S:St w0 f _ au [.box b3 36 [u,v,x,(str c.fReason),z,(str c.fBody),(int c.fRequested),(int c.fReceived)]]:=S
 have a7:At au ⟨b5,0,none⟩ [aa,ab,ac,(str b.fReason),ad,(str b.fBody),(int b.fRequested),(int b.fReceived)]:=⟨_,_,rfl,a6,[],by simp⟩
 have ⟨j,o,p,k,l,q⟩:=U6 av j o p k l q
 have an:=At.mono an av (by simp)
 refine WL.w (R.mkFunc (vs:=[(.pointer (some ⟨b1,0,none⟩)),(.pointer (some ⟨b5,0,none⟩))]) rfl)<|B h fun bn a8 h=>W.call S rfl (zBC S.holds c.fKeys (fun x0=>zCE x0 ah b) o (fun hle hw x0=>fun q0 r h=>zHL hw x0 ah b q0 (At.mono an hle (by simp)) (j.up hle) (At.mono a7 hle (by simp)) (p.up hle) (k.up hle) (l.up hle) (q.up hle) h) a8) ?_
 rintro bo bp bq br S rfl
 refine A<|We ?_
 exact WP.ret (Rb h S)
theorem zIX {v:World} {c:Hp} (hw:Holds v c) (b:GEntry) (f:GTable) (d:GEntry) {j:Value} {k:Value} {l:Value} {o:Value} {x:Value} {z:Value} {p:Value} {q:Value} {t:Value} {u:Value} {aa:Addr} {ab:Addr} (ac:Sl c j b.fKeys) (ad:Sl c k b.fVary) (ae:Sl c l b.fSnapshot) (af:Sl c o b.fFields) (ah:At c aa [x,z]) (ai:Sl c x f.fAxes) (aq:Sl c z f.fEntries) (aj:At c ab [p,q,t,(str d.fReason),u,(str d.fBody),(int d.fRequested),(int d.fReceived)]) (ak:Sl c p d.fKeys) (al:Sl c q d.fVary) (am:Sl c t d.fSnapshot) (an:Sl c u d.fFields) {r:Bool} (h:zEz b f d=some r) :
  Cb Tryz.prog 63 [(agg [j,k,l,(str b.fReason),o,(str b.fBody),(int b.fRequested),(int b.fReceived)]),(.pointer (some aa)),(.pointer (some ab))] v c r:=by
 refine CM 10 Tryz.func63 hw fun S=>?_
 refine Ws<|Wg ?_
 refine W.box [j,k,l,(str b.fReason),o,(str b.fBody),(int b.fRequested),(int b.fReceived)] S rfl rfl ?_
 intro b1 w2 S
 refine A<|We<|Ws<|Wg<|Fc ?_
 have ao:=At.add ah 0 (by simp)
 refine Lq S ao ?_
 refine WL.w (R.loadHN (vs:=[p,q,t,(str d.fReason),u,(str d.fBody),(int d.fRequested),(int d.fReceived)]) S rfl aj lay36 rfl rfl) ?_
 refine WL.w (R.loadBN (i:=0) (vs:=[j,k,l,(str b.fReason),o,(str b.fBody),(int b.fRequested),(int b.fReceived)]) S rfl rfl lay36 rfl rfl)<|B h fun r4 ap h=>W.call S rfl (zFn S.holds f.fAxes d b ai ak al am an ac ad ae af ap) ?_
 rintro v5 w6 H7 az S rfl
 refine A<|We ?_
 exact WP.ret (Rb h S)
theorem zGN {l:World} {d:Hp} (hw:Holds l d) (j:(List GEntry)) (t:(GEntry→Option Bool)) {o:Value} {kp_test:FuncId} {cp_test:List Value} (i:Sl d o j) (Fp_test:∀ {w:World} {H:Hp},d.le H→Holds w H→∀ (c:GEntry),∀ {aa ab ac ad:Value},Sl H aa c.fKeys→Sl H ab c.fVary→Sl H ac c.fSnapshot→Sl H ad c.fFields→∀ (rr:Bool),t c=some rr→Con Tryz.prog kp_test ([(agg [aa,ab,ac,(str c.fReason),ad,(str c.fBody),(int c.fRequested),(int c.fReceived)])]++cp_test) w H (fun H' v=>v=(boo rr))) {r:Int} (h:zE0 j t=some r) :
  Ci Tryz.prog 34 [o,(.func (.func kp_test) #[] cp_test.toArray)] l d r:=by
 refine CM 20 Tryz.func34 hw fun S=>?_
 refine Ws<|Wg<|A<|We<|Ws<|Ws<|Wg<|M<|Nq i<|Lh<|A<|We<|B h fun u ak h=>WP.cut (fun f w=>match u with | .inl _=>∃ (H6:Hp),St l d w H6 [] | .inr _=>False) ?_ ?_
 ·refine Wb ?_
  refine WP.loopM (zCt j t) (fun s f w=>match s with | af=>∃ (p:Hp),f 0=o∧f 1=(.func (.func kp_test) #[] cp_test.toArray)∧f 5=(int af)∧Sl p o j∧St l d w p []) (wr ((j.length:Int) - 1)) u ak ?_ ?_
  ·exact ⟨d,rfl,rfl,rfl,i,S⟩
  intro af f w hI y7 b ah
  obtain ⟨p,h2,h3,q,i,S⟩:=hI
  refine Ws<|Ws<|Wg<|M' q<|Ld<|We ?_
  rcases condE b with ⟨x,b⟩ | ⟨x,b⟩
  ·refine CT x<|Wk<|Ws<|Wb<|Ws<|Wg<|M' h3<|M' h2<|M' q<|B b fun k al b=>W.idx (α:=GEntry) i rfl rfl el23 al ?_
   rintro a1 _ am ⟨an,ao,ap,aq,rfl,ar,au,av,aw⟩
   refine WL.w (R.loadHN (vs:=[an,ao,ap,(str k.fReason),aq,(str k.fBody),(int k.fRequested),(int k.fReceived)]) S rfl am lay36 rfl rfl)<|B b fun a2 ax b=>W.callv S rfl rfl (Fp_test (S.post.le) S.holds k ar au av aw _ ax) ?_
   rintro a3 a4 ay az S rfl
   have i:=i.up az
   refine We ?_
   rcases condE b with ⟨z,b⟩ | ⟨z,b⟩
   ·refine CT z<|Ws<|Wg<|M' q<|A<|We ?_
    obtain rfl:=oi b
    obtain rfl:=ah
    exact WP.ret (Ri h S)
   refine CF z<|Wk<|Wg<|M' q<|Lh<|A<|We ?_
   obtain rfl:=oi b
   exact ⟨rfl,⟨ay,h2,h3,rfl,i,S⟩⟩
  refine CF x<|Wx ?_
  obtain rfl:=oi b
  obtain rfl:=ah
  exact ⟨p,S⟩
 intro f w hM
 rcases u with _ | e
 ·obtain ⟨H6,S⟩:=hM
  refine Ws<|Wg<|A<|We ?_
  exact WP.ret (Ri h S)
 exact hM.elim
theorem zFb {w0:World} {q:Hp} (hw:Holds w0 q) (t:GTable) (ar:Int) {ae:Value} {ad:Value} (c:Sl q ae t.fAxes) (d:Sl q ad t.fEntries) {r:Bool} (h:zEA t ar=some r) :
  Cb Tryz.prog 27 [(agg [ae,ad]),(int ar)] w0 q r:=by
 refine CM 54 Tryz.func27 hw fun S=>?_
 refine Ws<|Wg ?_
 refine W.box [ae,ad] S rfl rfl ?_
 intro b1 w2 S
 refine A<|We<|Ws<|Ws<|Wg<|Fb ?_
 refine Lo 0 S<|Nq d<|M<|Lc<|M<|B h fun bf af h=>WL.grpw 11 [13,14,15,16,17,18,19,20,21,22] 23 (boo bf) (fun w=>∃ H':Hp,q.le H'∧St w0 q w H' [.box b1 25 [ae,ad]]) ?_ ?_
 ·rcases boolE (decide (ar<(t.fEntries.length:Int))) with o | o
  ·replace af:=condT af o
   refine Gn o<|Gn o<|Gn o<|Gn o<|Gn o<|WL.gund rfl rfl<|WL.gund rfl rfl<|WL.gund rfl rfl<|WL.gund rfl rfl<|Gn o<|Pt o ?_
   exact We ⟨(ob af),ag,⟨q,lr,S⟩⟩
  replace af:=condF af o
  refine Gy o<|Fb<|Gy o ?_
  refine Lo 0 S<|Gy o<|Nq c<|Gy o<|Lc<|Gy o<|M<|B af fun bg ah af=>WL.grpw 5 [18,19,20,21] 22 (boo bg) (fun w=>∃ H':Hp,q.le H'∧St w0 q w H' [.box b1 25 [ae,ad]]) ?_ ?_
  ·rcases boolE (decide (0<(t.fAxes.length:Int))) with u | u
   ·replace ah:=condT ah u
    refine Gy u<|Fb<|Gy u ?_
    refine Lo 0 S<|Gy u<|B ah fun r7 bh ah=>W.call S rfl (zD0 S.holds t.fAxes c bh) ?_
    rintro v8 w9 bi a6 S rfl
    have ⟨c,d⟩:=U2 a6 c d
    refine Gy u<|No<|Gy o<|Pt u ?_
    exact We ⟨(ob ah),ag,⟨bi,a6,S⟩⟩
   replace ah:=condF ah u
   refine Gn u<|Gn u<|Gn u<|Gn u<|Gy o<|Pf u ?_
   exact We ⟨(ob ah),ag,⟨q,lr,S⟩⟩
  intro us ci ⟨bj,a7,S⟩
  have ⟨c,d⟩:=U2 a7 c d
  refine Pf o ?_
  exact We ⟨(ob af),ag,⟨bj,a7,S⟩⟩
 intro us cj ⟨ck,bk,S⟩
 have ⟨c,d⟩:=U2 bk c d
 refine We ?_
 rcases condE h with ⟨au,h⟩ | ⟨au,h⟩
 ·refine CT au<|Ws<|Wg<|A<|We ?_
  exact WP.ret (Rb h S)
 refine CF au<|Wk<|Ws<|Ws<|Wg<|Fb ?_
 refine Lo 0 S<|Nq d<|M<|We ?_
 obtain ⟨av,bn,bo,_,S⟩:=S.settle (i:=0) rfl
 replace S:St w0 q _ av []:=S
 have p:At av ⟨b1,0,none⟩ [ae,ad]:=⟨_,_,rfl,bo,[],by simp⟩
 have ⟨c,d⟩:=U2 bn c d
 refine B h fun aw bp h=>WP.cut (fun f w=>match aw with | .inl _=>∃ (a8:Hp),St w0 q w a8 [] | .inr _=>False) ?_ ?_
 ·refine Wb ?_
  refine WP.loopM (zCN t) (fun s f w=>match s with | a9=>∃ (aj:Hp),f 2=(.pointer (some ⟨b1,0,none⟩))∧f 25=ad∧f 26=(int (t.fEntries.length:Int))∧f 27=(int a9)∧At aj ⟨b1,0,none⟩ [ae,ad]∧Sl aj ae t.fAxes∧Sl aj ad t.fEntries∧St w0 q w aj []) 0 aw bp ?_ ?_
  ·exact ⟨av,rfl,rfl,rfl,rfl,p,c,d,S⟩
  intro a9 f w hI cl j ax
  obtain ⟨aj,ak,ay,az,ap,p,c,d,S⟩:=hI
  refine Ws<|Wg<|La' ap az<|We<|Ws ?_
  rcases condE j with ⟨a0,j⟩ | ⟨a0,j⟩
  ·refine CT a0<|Wk<|Ws<|Wb<|Ws<|Wg<|M' ap<|B j fun b bq j=>W.idx (α:=GEntry) d ay ap el23 bq ?_
   rintro cm _ br ⟨al,am,an,ao,rfl,v,x,z,aa⟩
   refine WL.w (R.loadHN (vs:=[al,am,an,(str b.fReason),ao,(str b.fBody),(int b.fRequested),(int b.fReceived)]) S rfl br lay36 rfl rfl) ?_
   refine W.alloc [(.slice none 0 0),(.slice none 0 0),(.slice none 0 0),(str []),(.slice none 0 0),(str []),(int 0),(int 0)] S zer36 ?_
   intro ba cn S
   refine A ?_
   refine W.store (i:=0) [al,am,an,(str b.fReason),ao,(str b.fBody),(int b.fRequested),(int b.fReceived)] S rfl rfl rfl lay36 rfl (AllOne.all (l:=[al,am,an,(str b.fReason),ao,(str b.fBody),(int b.fRequested),(int b.fReceived)]) (.cons (Sl.oneC v) (.cons (Sl.oneC x) (.cons (Sl.oneC z) (.cons rfl (.cons (Sl.oneC aa) (.cons rfl (.cons rfl (.cons rfl .nil))))))))) (Nat.le_of_ble_eq_true rfl) rfl ?_
   intro co S
   refine We<|Ws<|Ws<|Wg<|Fc' ak ?_
   have bs:=At.add p 0 (by simp)
   refine Lq S bs<|Nq c<|Le<|We ?_
   rcases condE j with ⟨a1,j⟩ | ⟨a1,j⟩
   ·refine CT a1<|Ws<|Ws<|Wg ?_
    refine WL.w (R.loadBN (i:=0) (vs:=[al,am,an,(str b.fReason),ao,(str b.fBody),(int b.fRequested),(int b.fReceived)]) S rfl rfl lay36 rfl rfl)<|B j fun cp bt j=>W.call S rfl (zI6 S.holds b v x z aa bt) ?_
    rintro cq cr bu bb S rfl
    have p:=At.mono p bb (by simp)
    have ⟨c,d,v,x,z,aa⟩:=U6 bb c d v x z aa
    refine No<|We ?_
    rcases condE j with ⟨a2,j⟩ | ⟨a2,j⟩
    ·refine CT a2<|Ws<|Wg<|A<|We ?_
     obtain rfl:=oi j
     obtain rfl:=ax
     exact WP.ret (Rb h S)
    refine CF a2<|Wk<|Wx<|Wg<|Lg' ap rfl<|M<|We ?_
    obtain rfl:=oi j
    exact ⟨rfl,⟨bu,ak,ay,az,rfl,p,c,d,(S.pk [])⟩⟩
   refine CF a1<|Wk<|Ws<|Wg<|Fc' ak ?_
   have bv:=At.add p 0 (by simp)
   refine Lq S bv ?_
   refine WL.w (R.loadBN (i:=0) (vs:=[al,am,an,(str b.fReason),ao,(str b.fBody),(int b.fRequested),(int b.fReceived)]) S rfl rfl lay36 rfl rfl)<|B j fun bw bx j=>W.call S rfl (zJP S.holds t.fAxes b c v x z aa bx) ?_
   rintro cs ct cu bc S rfl
   have p:=At.mono p bc (by simp)
   have ⟨c,d,v,x,z,aa⟩:=U6 bc c d v x z aa
   refine No<|M ?_
   obtain ⟨aq,bd,bz,_,S⟩:=S.settle (i:=0) rfl
   replace S:St w0 q _ aq []:=S
   have b0:At aq ⟨ba,0,none⟩ [al,am,an,(str b.fReason),ao,(str b.fBody),(int b.fRequested),(int b.fReceived)]:=⟨_,_,rfl,bz,[],by simp⟩
   have p:=At.mono p bd (by simp)
   have ⟨c,d,v,x,z,aa⟩:=U6 bd c d v x z aa
   refine B j fun b2 ab j=>WL.grpw 8 [45,46,47,48,49,50,51] 52 (boo b2) (fun w=>∃ H':Hp,aq.le H'∧St w0 q w H' []) ?_ ?_
   ·rcases boolE (!bw) with k | k
    ·replace ab:=condT ab k
     refine Gn k<|Gn k<|Gn k<|Gn k<|Gn k<|Gn k<|Gn k<|Pt k ?_
     exact We ⟨(ob ab),ag,⟨aq,lr,S⟩⟩
    replace ab:=condF ab k
    refine Gy k<|Fc' ak ?_
    have b3:=At.add p 1 (by simp)
    refine Gy k ?_
    refine Lq S b3<|Gy k<|M<|Gy k<|B ab fun b4 b5 ab=>W.subHi (α:=GEntry) d rfl rfl el23 b5 ?_
    intro cv b6
    refine Gy k ?_
    refine WL.w (R.mkFunc (vs:=[(.pointer (some ⟨b1,0,none⟩)),(.pointer (some ⟨ba,0,none⟩))]) (mapC ak (mapC rfl mapN)))<|Gy k<|B ab fun cw b7 ab=>W.call S rfl (zGN S.holds b4 (fun x0=>zEz x0 t b) b6 (fun hle hw x0=>fun b8 b9 ca cb r h=>zIX hw x0 t b b8 b9 ca cb (At.mono p hle (by simp)) (c.up hle) (d.up hle) (At.mono b0 hle (by simp)) (v.up hle) (x.up hle) (z.up hle) (aa.up hle) h) b7) ?_
    rintro cx cy cc a4 S rfl
    have p:=At.mono p a4 (by simp)
    have ⟨c,d⟩:=U2 a4 c d
    refine Gy k<|Ld<|Pf k ?_
    exact We ⟨(ob ab),ag,⟨cc,a4,S⟩⟩
   intro us cz ⟨cd,be,S⟩
   have p:=At.mono p be (by simp)
   have ⟨c,d⟩:=U2 be c d
   refine We ?_
   rcases condE j with ⟨a5,j⟩ | ⟨a5,j⟩
   ·refine CT a5<|Ws<|Wg<|A<|We ?_
    obtain rfl:=oi j
    obtain rfl:=ax
    exact WP.ret (Rb h S)
   refine CF a5<|Wk<|Wg<|Lg' ap rfl<|M<|We ?_
   obtain rfl:=oi j
   exact ⟨rfl,⟨cd,ak,ay,az,rfl,p,c,d,S⟩⟩
  refine CF a0<|Wx ?_
  obtain rfl:=oi j
  obtain rfl:=ax
  exact ⟨aj,S⟩
 intro f w hM
 rcases aw with _ | e
 ·obtain ⟨a8,S⟩:=hM
  refine Ws<|Wg<|A<|We ?_
  exact WP.ret (Rb h S)
 exact hM.elim
end Go.Proofs
