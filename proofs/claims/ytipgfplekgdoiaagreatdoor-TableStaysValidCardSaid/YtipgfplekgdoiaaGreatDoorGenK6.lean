/- A part of the proof of laws of the seat: written by program over the translation. -/
import Derived.Test.YtipgfplekgdoiaaGreatDoorEng38
import Derived.Test.YtipgfplekgdoiaaGreatDoorEng32
import Derived.Test.YtipgfplekgdoiaaGreatDoorGenK5
namespace Go.Proofs
set_option maxHeartbeats 4000000
set_option maxRecDepth 10000
open Go.Eng Go.Eng.Pure
set_option linter.unusedVariables false
theorem zHf {q:World} {o:Hp} (hw:Holds q o) (t:(List GParam)) (d:GParam) {u:Value} (j:Sl (α:=GParam) o u t) {r:Bool} (h:zCo t d=some r) :
  Con Tryz.prog 259 [u,(agg [(str d.fName),(str d.fValue)])] q o (fun H' v=>v=(boo r)):=by
 refine Con.mk (N:=26) Tryz.func259 rfl rfl kr rfl ?_
 have S:=St.start hw
 refine Ws<|Wg ?_
 refine W.box [(str d.fName),(str d.fValue)] S rfl rfl ?_
 intro x w2 S
 refine A<|We<|Ws<|Ws<|Wg<|M<|Nq j<|M<|We<|B h fun z al h=>WP.cut (fun f w=>match z with | .inl _=>∃ (H9:Hp),St q o w H9 [] | .inr _=>False) ?_ ?_
 ·refine Wb ?_
  refine WP.loopM (zBO t d) (fun s f w=>match s with | af=>∃ (p:Hp),f 3=(ptr x 0)∧f 7=u∧f 8=(int (t.length:Int))∧f 9=(int af)∧Sl (α:=GParam) p u t∧St q o w p [.box x 161 [(str d.fName),(str d.fValue)]]) 0 z al ?_ ?_
  ·exact ⟨o,rfl,rfl,rfl,rfl,j,S⟩
  intro af f w hI ax c ah
  obtain ⟨p,h4,h5,h6,h8,j,S⟩:=hI
  refine Ws<|Wg<|La' h8 h6<|We<|Ws ?_
  rcases condE c with ⟨ac,c⟩ | ⟨ac,c⟩
  ·refine CT ac<|Wk<|Ws<|Wb<|Ws<|Wg<|B c fun k am c=>W.idx (α:=GParam) j h5 h8 el156 am ?_
   rintro ay _ an rfl
   refine WL.w (R.loadHN (vs:=[(str k.fName),(str k.fValue)]) S rfl an zHU rfl rfl) ?_
   refine W.alloc [(str []),(str [])] S zKn ?_
   intro ao az S
   refine W.store (i:=0) [(str k.fName),(str k.fValue)] S rfl rfl rfl zHU rfl rfl (Nat.le_of_ble_eq_true rfl) rfl ?_
   intro a0 S
   refine We<|Ws<|Wg<|Fb ?_
   refine Lo 0 S<|Fb' h4 ?_
   refine Lo 1 S<|Na<|M<|B c fun ap l c=>WL.grpw 6 [19,20,21,22,23] 24 (boo ap) (fun w=>∃ H':Hp,p.le H'∧St q o w H' [.box ao 161 [(str k.fName),(str k.fValue)],.box x 161 [(str d.fName),(str d.fValue)]]) ?_ ?_
   ·rcases boolE (k.fName==d.fName) with b | b
    ·replace l:=condT l b
     refine Gy b<|Fb<|Gy b ?_
     refine Lo 0 S<|Gy b<|Fb' h4<|Gy b ?_
     refine Lo 1 S<|Gy b<|B l fun a1 aq l=>W.call S rfl (zDM S.holds k.fValue d.fValue aq) ?_
     rintro a2 a3 ar ak S rfl
     have j:=Sl.mono j ak
     refine Pt b ?_
     exact We ⟨(congrArg boo (oi l)),ag,⟨ar,ak,S⟩⟩
    replace l:=condF l b
    refine Gn b<|Gn b<|Gn b<|Gn b<|Gn b<|Pf b ?_
    exact We ⟨(congrArg boo (oi l)),ag,⟨p,(Hp.le.refl _),S⟩⟩
   intro us a4 ⟨au,av,S⟩
   have j:=Sl.mono j av
   refine We ?_
   rcases condE c with ⟨ad,c⟩ | ⟨ad,c⟩
   ·refine CT ad<|Ws<|Wg<|A<|We ?_
    obtain rfl:=oi c
    obtain rfl:=ah
    obtain rfl:=oi h
    refine WP.ret (Out.one rfl S rfl ?_)
    exact rfl
   refine CF ad<|Wk<|Wg<|Lg' h8 rfl<|M<|We ?_
   obtain rfl:=oi c
   exact ⟨rfl,⟨au,h4,h5,h6,rfl,j,(S.drop _ (.cons _ (.cons_cons _ .slnil)))⟩⟩
  refine CF ac<|Wx ?_
  obtain rfl:=oi c
  obtain rfl:=ah
  exact ⟨p,(S.drop _ (.cons _ .slnil))⟩
 intro f w hM
 rcases z with _ | e
 ·obtain ⟨H9,S⟩:=hM
  refine Ws<|Wg<|A<|We ?_
  obtain rfl:=oi h
  refine WP.ret (Out.one rfl S rfl ?_)
  exact rfl
 exact hM.elim
theorem zIY {w0:World} {q:Hp} (hw:Holds w0 q) (b:GMediaType) (c:GMediaType) {p:Value} {x:Value} (o:Sl (α:=GParam) q p b.fParams) (u:Sl (α:=GParam) q x c.fParams) {r:Int} (h:zEJ b c=some r) :
  Con Tryz.prog 250 [(agg [(str b.fType),(str b.fSub),p]),(agg [(str c.fType),(str c.fSub),x])] w0 q (fun H' v=>v=(int r)):=by
 refine Con.mk (N:=57) Tryz.func250 rfl rfl kr rfl ?_
 have S:=St.start hw
 refine Ws<|Wg ?_
 refine W.box [(str b.fType),(str b.fSub),p] S rfl rfl ?_
 intro b1 w2 S
 refine W.box [(str c.fType),(str c.fSub),x] S rfl rfl ?_
 intro b3 w4 S
 refine A<|We<|Ws<|Wb<|Ws<|Wg<|Fb ?_
 refine Lo 1 S<|Na<|M ?_
 refine WL.grp 4 [12,13,14] 15 (boo ((b.fType==[42])&&(b.fSub==[42]))) ?_ ?_
 ·rcases boolE (b.fType==[42]) with l | l
  ·refine Gy l<|Fb<|Gy l ?_
   refine Lo 1 S<|Gy l<|Na<|Pt l ?_
   exact We ⟨(andT l),ag,rfl⟩
  refine Gn l<|Gn l<|Gn l<|Pf l ?_
  exact We ⟨(andF l),ag,rfl⟩
 intro us
 refine A<|We ?_
 rcases condE h with ⟨ac,h⟩ | ⟨ac,h⟩
 ·refine CT ac<|Ws<|Wg<|A<|We ?_
  obtain rfl:=oi h
  refine WP.ret (Out.one rfl S rfl ?_)
  exact rfl
 refine CF ac<|Ws<|Wg<|Fb ?_
 refine Lo 1 S<|Na<|M ?_
 refine WL.grp 6 [21,22,23,24,25] 26 (boo ((b.fSub==[42])&&(b.fType==c.fType))) ?_ ?_
 ·rcases boolE (b.fSub==[42]) with d | d
  ·refine Gy d<|Fb<|Gy d ?_
   refine Lo 1 S<|Gy d<|Fb<|Gy d ?_
   refine Lo 0 S<|Gy d<|Na<|Pt d ?_
   exact We ⟨(andT d),ag,rfl⟩
  refine Gn d<|Gn d<|Gn d<|Gn d<|Gn d<|Pf d ?_
  exact We ⟨(andF d),ag,rfl⟩
 intro us
 refine A<|We ?_
 rcases condE h with ⟨ad,h⟩ | ⟨ad,h⟩
 ·refine CT ad<|Ws<|Wg<|A<|We ?_
  obtain rfl:=oi h
  refine WP.ret (Out.one rfl S rfl ?_)
  exact rfl
 refine CF ad<|Ws<|Wg<|Fb ?_
 refine Lo 1 S<|Fb ?_
 refine Lo 0 S<|Nb<|M ?_
 refine WL.grp 6 [34,35,36,37,38] 39 (boo ((b.fType !=c.fType)||(b.fSub !=c.fSub))) ?_ ?_
 ·rcases boolE (b.fType !=c.fType) with j | j
  ·refine Gn j<|Gn j<|Gn j<|Gn j<|Gn j<|Pt j ?_
   exact We ⟨(orT j),ag,rfl⟩
  refine Gy j<|Fb<|Gy j ?_
  refine Lo 1 S<|Gy j<|Fb<|Gy j ?_
  refine Lo 0 S<|Gy j<|Nb<|Pf j ?_
  exact We ⟨(orF j),ag,rfl⟩
 intro us
 refine A<|We ?_
 rcases condE h with ⟨ae,h⟩ | ⟨ae,h⟩
 ·refine CT ae<|Ws<|Wg<|A<|We ?_
  obtain rfl:=oi h
  refine WP.ret (Out.one rfl S rfl ?_)
  exact rfl
 refine CF ae<|Wk<|Ws<|Ws<|Wg<|Fb ?_
 refine Lo 1 S<|Nq o<|M<|We<|B h fun af av h=>WP.cut (fun f w=>match af with | .inl _=>∃ (ah:Hp),f 2=(ptr b1 0)∧Sl (α:=GParam) ah p b.fParams∧St w0 q w ah [.box b1 158 [(str b.fType),(str b.fSub),p]] | .inr _=>False) ?_ ?_
 ·refine Wb ?_
  refine WP.loopM (zB0 b c) (fun s f w=>match s with | am=>∃ (z:Hp),f 2=(ptr b1 0)∧f 3=(ptr b3 0)∧f 41=p∧f 42=(int (b.fParams.length:Int))∧f 43=(int am)∧Sl (α:=GParam) z p b.fParams∧Sl (α:=GParam) z x c.fParams∧St w0 q w z [.box b3 158 [(str c.fType),(str c.fSub),x],.box b1 158 [(str b.fType),(str b.fSub),p]]) 0 af av ?_ ?_
  ·exact ⟨q,rfl,rfl,rfl,rfl,rfl,o,u,S⟩
  intro am f w hI a3 k an
  obtain ⟨z,ao,ap,aq,ar,ai,o,u,S⟩:=hI
  refine Ws<|Wg<|La' ai ar<|We<|Ws ?_
  rcases condE k with ⟨aj,k⟩ | ⟨aj,k⟩
  ·refine CT aj<|Wk<|Ws<|Wb<|Ws<|Wg<|B k fun t aw k=>W.idx (α:=GParam) o aq ai el156 aw ?_
   rintro a4 _ ax rfl
   refine WL.w (R.loadHN (vs:=[(str t.fName),(str t.fValue)]) S rfl ax zHU rfl rfl) ?_
   refine W.alloc [(str []),(str [])] S zKn ?_
   intro a5 a6 S
   refine W.store (i:=0) [(str t.fName),(str t.fValue)] S rfl rfl rfl zHU rfl rfl (Nat.le_of_ble_eq_true rfl) rfl ?_
   intro a7 S
   refine We<|Ws<|Wg<|Fb' ap ?_
   refine Lo 1 S ?_
   refine WL.w (R.loadBN (i:=0) (vs:=[(str t.fName),(str t.fValue)]) S rfl rfl zHU rfl rfl)<|B k fun a8 ay k=>W.call S rfl (zHf S.holds c.fParams t u ay) ?_
   rintro a9 ba az au S rfl
   have o:=Sl.mono o au
   have u:=Sl.mono u au
   refine No<|We ?_
   rcases condE k with ⟨ak,k⟩ | ⟨ak,k⟩
   ·refine CT ak<|Ws<|Wg<|A<|We ?_
    obtain rfl:=oi k
    obtain rfl:=an
    obtain rfl:=oi h
    refine WP.ret (Out.one rfl S rfl ?_)
    exact rfl
   refine CF ak<|Wk<|Wg<|Lg' ai rfl<|M<|We ?_
   obtain rfl:=oi k
   exact ⟨rfl,⟨az,ao,ap,aq,ar,rfl,o,u,(S.drop _ (.cons _ (.cons_cons _ (.cons_cons _ .slnil))))⟩⟩
  refine CF aj<|Wx ?_
  obtain rfl:=oi k
  obtain rfl:=an
  exact ⟨z,ao,o,(S.drop _ (.cons _ (.cons_cons _ .slnil)))⟩
 intro f w hM
 rcases af with _ | e
 ·obtain ⟨ah,a0,o,S⟩:=hM
  refine Ws<|Wg<|Fb' a0 ?_
  refine Lo 0 S<|Nq o<|Lg<|A<|We ?_
  obtain rfl:=oi h
  refine WP.ret (Out.one rfl S rfl ?_)
  exact rfl
 exact hM.elim
theorem zGJ {i:World} {j:Hp} (hw:Holds i j) (d:Str) (f:Str) {r:Bool} (h:zBt d f=some r) :
  Con Tryz.prog 268 [(str d),(str f)] i j (fun H' v=>v=(boo r)):=by
 refine Con.mk (N:=18) Tryz.func268 rfl rfl kr rfl ?_
 have S:=St.start hw
 refine Ws<|Wg<|A<|We<|Ws<|Wg<|M<|Ns<|M<|Ns<|Ld<|M<|B h fun k c h=>WL.grp 7 [11,12,13,14,15,16] 17 (boo k) ?_ ?_
 ·rcases boolE (decide ((f.length:Int)≤(d.length:Int))) with b | b
  ·replace c:=condT c b
   refine Gy b<|M<|Gy b<|M<|Gy b<|Ns<|Gy b<|B c fun o l c=>Jd l<|Gy b<|M<|Gy b<|Na<|Pt b ?_
   exact We ⟨(congrArg boo (oi c)),ag,rfl⟩
  replace c:=condF c b
  refine Gn b<|Gn b<|Gn b<|Gn b<|Gn b<|Gn b<|Pf b ?_
  exact We ⟨(congrArg boo (oi c)),ag,rfl⟩
 intro us
 refine A<|We ?_
 obtain rfl:=oi h
 refine WP.ret (Out.one rfl S rfl ?_)
 exact rfl
theorem zHz {d:World} {f:Hp} (hw:Holds d f) (b:Str) (c:Str) {r:Bool} (h:zEb b c=some r) :
  Con Tryz.prog 260 [(str b),(str c)] d f (fun H' v=>v=(boo r)):=by
 refine Con.mk (N:=8) Tryz.func260 rfl rfl kr rfl ?_
 have S:=St.start hw
 refine Ws<|Wg<|A<|We<|Ws<|Wg<|M<|M<|B h fun j i h=>W.call S rfl (zGJ S.holds b c i) ?_
 rintro k l o p S rfl
 refine A<|We ?_
 obtain rfl:=oi h
 refine WP.ret (Out.one rfl S rfl ?_)
 exact rfl
theorem zJD {i:World} {j:Hp} (hw:Holds i j) (d:Str) (f:Str) {r:Int} (h:zEl d f=some r) :
  Con Tryz.prog 251 [(str d),(str f)] i j (fun H' v=>v=(int r)):=by
 refine Con.mk (N:=26) Tryz.func251 rfl rfl kr rfl ?_
 have S:=St.start hw
 refine Ws<|Wg<|A<|We<|Ws<|Ws<|Wg<|M<|B h fun q t h=>W.call S rfl (zGU S.holds d t) ?_
 rintro v2 w3 p am S rfl
 refine No<|M<|B h fun u c h=>WL.grpw 4 [9,10,11] 12 (boo u) (fun w=>∃ H':Hp,p.le H'∧St i j w H' []) ?_ ?_
 ·rcases boolE (!q) with b | b
  ·replace c:=condT c b
   refine Gn b<|Gn b<|Gn b<|Pt b ?_
   exact We ⟨(congrArg boo (oi c)),ag,⟨p,(Hp.le.refl _),S⟩⟩
  replace c:=condF c b
  refine Gy b<|M<|Gy b<|B c fun r8 x c=>W.call S rfl (zFl S.holds f x) ?_
  rintro v9 ap z aa S rfl
  refine Gy b<|No<|Pf b ?_
  exact We ⟨(congrArg boo (oi c)),ag,⟨z,aa,S⟩⟩
 intro us aq ⟨ar,au,S⟩
 refine We ?_
 rcases condE h with ⟨k,h⟩ | ⟨k,h⟩
 ·refine CT k<|Ws<|Wg<|A<|We ?_
  obtain rfl:=oi h
  refine WP.ret (Out.one rfl S rfl ?_)
  exact rfl
 refine CF k<|Wk<|Ws<|Ws<|Wg<|M<|Na<|We ?_
 rcases condE h with ⟨l,h⟩ | ⟨l,h⟩
 ·refine CT l<|Ws<|Wg<|A<|We ?_
  obtain rfl:=oi h
  refine WP.ret (Out.one rfl S rfl ?_)
  exact rfl
 refine CF l<|Wk<|Ws<|Ws<|Wg<|M<|B h fun av ab h=>W.call S rfl (zAV S.holds f ab) ?_
 rintro aw ax ay az S rfl
 refine B h fun ac ad h=>Je ad<|M<|B h fun a0 ae h=>W.call S rfl (zAV S.holds d ae) ?_
 rintro a1 a2 a3 a4 S rfl
 refine B h fun af ah h=>Je ah<|B h fun a5 ai h=>W.call S rfl (zHz S.holds ac af ai) ?_
 rintro a6 a7 a8 a9 S rfl
 refine No<|We ?_
 rcases condE h with ⟨o,h⟩ | ⟨o,h⟩
 ·refine CT o<|Ws<|Wg<|A<|We ?_
  obtain rfl:=oi h
  refine WP.ret (Out.one rfl S rfl ?_)
  exact rfl
 refine CF o<|Wk<|Ws<|Wg<|M<|B h fun ba aj h=>W.call S rfl (zG3 S.holds d [45] aj) ?_
 rintro bb bc bd be S rfl
 refine Lg<|A<|We ?_
 obtain rfl:=oi h
 refine WP.ret (Out.one rfl S rfl ?_)
 exact rfl
theorem zKG {j:World} {k:Hp} (hw:Holds j k) (b:Int) (c:Str) (d:Str) {r:Int} (h:zFw b c d=some r) :
  Con Tryz.prog 252 [(int b),(str c),(str d)] j k (fun H' v=>v=(int r)):=by
 refine Con.mk (N:=18) Tryz.func252 rfl rfl kr rfl ?_
 have S:=St.start hw
 refine Ws<|Wg<|A<|We<|Ws<|Wb<|Ws<|Wg<|M<|Na<|A<|We ?_
 rcases condE h with ⟨f,h⟩ | ⟨f,h⟩
 ·refine CT f<|Ws<|Wg<|A<|We ?_
  obtain rfl:=oi h
  refine WP.ret (Out.one rfl S rfl ?_)
  exact rfl
 refine CF f<|Ws<|Wg<|M<|M<|B h fun p l h=>W.call S rfl (zBk S.holds b c l) ?_
 rintro q t u x S rfl
 refine M<|M<|B h fun z o h=>W.call S rfl (zBk S.holds b d o) ?_
 rintro v8 w9 ac ad S rfl
 refine Na<|A<|We ?_
 rcases condE h with ⟨i,h⟩ | ⟨i,h⟩
 ·refine CT i<|Ws<|Wg<|A<|We ?_
  obtain rfl:=oi h
  refine WP.ret (Out.one rfl S rfl ?_)
  exact rfl
 refine CF i<|Wk<|Ws<|Wg<|A<|We ?_
 obtain rfl:=oi h
 refine WP.ret (Out.one rfl S rfl ?_)
 exact rfl
theorem zKS {x:World} {t:Hp} (hw:Holds x t) (aa:Int) (u:Str) (o:Str) {r:Int} (h:zF0 aa u o=some r) :
  Con Tryz.prog 220 [(int aa),(str u),(str o)] x t (fun H' v=>v=(int r)):=by
 refine Con.mk (N:=57) Tryz.func220 rfl rfl kr rfl ?_
 have S:=St.start hw
 refine Ws<|Wg<|A<|We<|Ws<|Ws<|Wg<|M<|We<|B h fun j3 b h=>WP.cut (fun f w=>match j3 with | .inl _=>∃ (H1:Hp),St x t w H1 [] | .inr _=>False) ?_ ?_
 ·refine Wb<|Ws<|Wg<|Le<|A<|We ?_
  rcases condE b with ⟨ac,b⟩ | ⟨ac,b⟩
  ·refine CT ac<|Ws<|Wg<|M<|B b fun d aw b=>W.call S rfl (zCV S.holds u aw) ?_
   rintro v6 w7 H8 bc S ⟨ad,rfl,ab⟩
   refine M ?_
   refine Ex ?_
   refine Ex ?_
   refine W.alloc [(str []),(str []),(.slice none 0 0)] S zDQ ?_
   intro bd be S
   refine W.store (i:=0) [(str d.1.fType),(str d.1.fSub),ad] S rfl rfl rfl zA9 rfl (AllOne.all (l:=[(str d.1.fType),(str d.1.fSub),ad]) (.cons rfl (.cons rfl (.cons (Sl.oneC ab) .nil)))) (Nat.le_of_ble_eq_true rfl) rfl ?_
   intro bf S
   refine A<|We<|Ws<|Wg<|M<|B b fun p ax b=>W.call S rfl (zFp S.holds o ax) ?_
   rintro bg bh bi ay S ⟨ae,rfl,aq⟩
   have ab:=Sl.mono ab ay
   refine M ?_
   refine Ex ?_
   refine Ex ?_
   refine W.alloc [(str []),(str []),(.slice none 0 0)] S zDQ ?_
   intro bj bk S
   refine W.store (i:=0) [(str p.1.fType),(str p.1.fSub),ae] S rfl rfl rfl zA9 rfl (AllOne.all (l:=[(str p.1.fType),(str p.1.fSub),ae]) (.cons rfl (.cons rfl (.cons (Sl.oneC aq) .nil)))) (Nat.le_of_ble_eq_true rfl) rfl ?_
   intro bn S
   refine A<|We<|Ws<|Ws<|Wg<|M<|No<|M ?_
   refine WL.grp 3 [27,28] 29 (boo ((!d.2)||(!p.2))) ?_ ?_
   ·rcases boolE (!d.2) with j | j
    ·refine Gn j<|Gn j<|Pt j ?_
     exact We ⟨(orT j),ag,rfl⟩
    refine Gy j<|M<|Gy j<|No<|Pf j ?_
    exact We ⟨(orF j),ag,rfl⟩
   intro us
   refine We ?_
   rcases condE b with ⟨af,b⟩ | ⟨af,b⟩
   ·refine CT af<|Ws<|Wg<|A<|We ?_
    obtain rfl:=oi b
    obtain rfl:=oi h
    refine WP.ret (Out.one rfl S rfl ?_)
    exact rfl
   refine CF af<|Wk<|Ws<|Wg ?_
   refine WL.w (R.loadBN (i:=1) (vs:=[(str d.1.fType),(str d.1.fSub),ad]) S rfl rfl zA9 rfl rfl) ?_
   refine WL.w (R.loadBN (i:=0) (vs:=[(str p.1.fType),(str p.1.fSub),ae]) S rfl rfl zA9 rfl rfl)<|B b fun bo az b=>W.call S rfl (zIY S.holds d.1 p.1 ab aq az) ?_
   rintro bp bq br bs S rfl
   refine A<|We ?_
   obtain rfl:=oi b
   obtain rfl:=oi h
   refine WP.ret (Out.one rfl S rfl ?_)
   exact rfl
  refine CF ac<|Ws<|Wg<|Le<|A<|We ?_
  rcases condE b with ⟨ah,b⟩ | ⟨ah,b⟩
  ·refine CT ah<|Ws<|Wg<|M<|M<|B b fun bt a0 b=>W.call S rfl (zJD S.holds u o a0) ?_
   rintro bu bv bw bx S rfl
   refine A<|We ?_
   obtain rfl:=oi b
   obtain rfl:=oi h
   refine WP.ret (Out.one rfl S rfl ?_)
   exact rfl
  refine CF ah<|Ws<|Ws<|Wg<|Le<|A<|We<|B b fun a1 z b=>WP.cut (fun f w=>∃ (ai:Hp),f 0=(int aa)∧f 1=(str u)∧f 2=(str o)∧f 38=(boo a1)∧St x t w ai []) ?_ ?_
  ·rcases condE z with ⟨aj,z⟩ | ⟨aj,z⟩
   ·refine CT aj<|Wk ?_
    obtain rfl:=oi z
    exact ⟨t,rfl,rfl,rfl,rfl,S⟩
   refine CF aj<|Wg<|Le<|A<|We ?_
   obtain rfl:=oi z
   exact ⟨t,rfl,rfl,rfl,rfl,S⟩
  rintro f w ⟨ai,a2,ar,ak,au,S⟩
  rcases condE b with ⟨al,b⟩ | ⟨al,b⟩
  ·refine WP.condT au al<|Ws<|Ws<|Wg<|M' ar<|B b fun a3 a4 b=>W.call S rfl (zAz S.holds u a4) ?_
   rintro bz b0 av b1 S rfl
   refine No<|M<|B b fun am q b=>WL.grpw 4 [45,46,47] 48 (boo am) (fun w=>∃ H':Hp,av.le H'∧St x t w H' []) ?_ ?_
   ·rcases boolE (!a3) with c | c
    ·replace q:=condT q c
     refine Gn c<|Gn c<|Gn c<|Pt c ?_
     exact We ⟨(congrArg boo (oi q)),ag,⟨av,(Hp.le.refl _),S⟩⟩
    replace q:=condF q c
    refine Gy c<|M' ak<|Gy c<|B q fun b2 a5 q=>W.call S rfl (zAz S.holds o a5) ?_
    rintro b3 b4 a6 a7 S rfl
    refine Gy c<|No<|Pf c ?_
    exact We ⟨(congrArg boo (oi q)),ag,⟨a6,a7,S⟩⟩
   intro us b5 ⟨b6,b7,S⟩
   refine M ?_
   refine WL.grp 3 [50,51] 52 (boo (am||(o==[42]))) ?_ ?_
   ·rcases boolE am with k | k
    ·refine Gn k<|Gn k<|Pt k ?_
     exact We ⟨(orT k),ag,rfl⟩
    refine Gy k<|M' ak<|Gy k<|Na<|Pf k ?_
    exact We ⟨(orF k),ag,rfl⟩
   intro us
   refine We ?_
   rcases condE b with ⟨an,b⟩ | ⟨an,b⟩
   ·refine CT an<|Ws<|Wg<|A<|We ?_
    obtain rfl:=oi b
    obtain rfl:=oi h
    refine WP.ret (Out.one rfl S rfl ?_)
    exact rfl
   refine CF an<|Wk<|Ws<|Wg<|M' a2<|M' ar<|M' ak<|B b fun b8 a8 b=>W.call S rfl (zKG S.holds aa u o a8) ?_
   rintro b9 ca cb cc S rfl
   refine A<|We ?_
   obtain rfl:=oi b
   obtain rfl:=oi h
   refine WP.ret (Out.one rfl S rfl ?_)
   exact rfl
  refine WP.condF au al<|Wk ?_
  obtain rfl:=oi b
  exact ⟨ai,S⟩
 intro f w hM
 rcases j3 with _ | e
 ·obtain ⟨H1,S⟩:=hM
  refine Ws<|Wg<|A<|We ?_
  obtain rfl:=oi h
  refine WP.ret (Out.one rfl S rfl ?_)
  exact rfl
 exact hM.elim
theorem zJz {t:World} {o:Hp} (hw:Holds t o) (k:Int) (u:(List GPref)) (ao:Bool) (p:Str) {z:Value} (c:Sl (α:=GPref) o z u) {r:Int} (h:zE1 k u ao p=some r) :
  Con Tryz.prog 183 [(int k),z,(boo ao),(str p)] t o (fun H' v=>v=(int r)):=by
 refine Con.mk (N:=45) Tryz.func183 rfl rfl kr rfl ?_
 have S:=St.start hw
 refine Ws<|Wg<|A<|We<|Ws<|Ws<|Wg<|M<|No<|We ?_
 rcases condE h with ⟨af,h⟩ | ⟨af,h⟩
 ·refine CT af<|Ws<|Wg<|A<|We ?_
  obtain rfl:=oi h
  refine WP.ret (Out.one rfl S rfl ?_)
  exact rfl
 refine CF af<|Wk<|Ws<|Wg<|A<|A<|We<|Ws<|Ws<|Wg<|M<|Nq c ?_
 refine M<|We<|B h fun ah aw h=>WP.cut (fun f w=>match ah with | (x,ap)=>∃ (aa:Hp),f 0=(int k)∧f 3=(str p)∧f 9=(int x)∧f 10=(int ap)∧St t o w aa []) ?_ ?_
 ·refine Wb ?_
  refine WP.loopM (zC2 k u p) (fun s f w=>match s with | (aq,ar,au)=>∃ (H2:Hp),f 0=(int k)∧f 3=(str p)∧f 9=(int aq)∧f 10=(int ar)∧f 16=z∧f 17=(int (u.length:Int))∧f 18=(int au)∧Sl (α:=GPref) H2 z u∧St t o w H2 []) ((-1),0,0) ah aw ?_ ?_
  ·exact ⟨o,rfl,rfl,rfl,rfl,rfl,rfl,rfl,c,S⟩
  intro s f w hI bd b ax
  obtain ⟨aq,ar,au⟩:=s
  obtain ⟨H2,h3,h4,h6,h8,h9,ak,ae,c,S⟩:=hI
  refine Ws<|Wg<|La' ae ak<|We<|Ws ?_
  rcases condE b with ⟨al,b⟩ | ⟨al,b⟩
  ·refine CT al<|Wk<|Ws<|Wb<|Ws<|Wg<|B b fun q ay b=>W.idx (α:=GPref) c h9 ae el122 ay ?_
   rintro be _ az rfl
   refine WL.w (R.loadHN (vs:=[(str q.fRange),(int q.fQ)]) S rfl az zDU rfl rfl) ?_
   refine W.alloc [(str []),(int 0)] S zG5 ?_
   intro bf bg S
   refine W.store (i:=0) [(str q.fRange),(int q.fQ)] S rfl rfl rfl zDU rfl rfl (Nat.le_of_ble_eq_true rfl) rfl ?_
   intro bh S
   refine We<|Ws<|Wg<|M' h3<|Fb ?_
   refine Lo 0 S<|M' h4<|B b fun bi a0 b=>W.call S rfl (zKS S.holds k q.fRange p a0) ?_
   rintro bj bk a1 a2 S rfl
   have c:=Sl.mono c a2
   refine A<|We<|Ws<|Wg<|M<|M' h6<|Lc<|We ?_
   rcases condE b with ⟨am,b⟩ | ⟨am,b⟩
   ·refine CT am<|WP.quiet S kr kr<|QM<|QFb ?_
    refine WQ.val (fun w hw=>by obtain ⟨_,hq,S⟩:=hw; exact (R.loadB (i:=0) (v:=int q.fQ) S rfl rfl lay3 rfl))<|QA<|QA<|WQ.nil ?_
    intro bn a3 a4 S
    have c:=Sl.mono c a4
    refine Wg<|Lg' ae rfl<|M<|We ?_
    obtain rfl:=oi b
    exact ⟨rfl,⟨a3,h3,h4,rfl,rfl,h9,ak,rfl,c,(S.drop _ (.cons _ .slnil))⟩⟩
   refine CF am<|Wk<|Wg<|Lg' ae rfl<|M<|We ?_
   obtain rfl:=oi b
   exact ⟨rfl,⟨a1,h3,h4,h6,h8,h9,ak,rfl,c,(S.drop _ (.cons _ .slnil))⟩⟩
  refine CF al<|Wx ?_
  obtain rfl:=oi b
  obtain rfl:=ax
  exact ⟨H2,h3,h4,h6,h8,S⟩
 intro f w hM
 obtain ⟨x,ap⟩:=ah
 obtain ⟨aa,a5,a6,a7,a8,S⟩:=hM
 refine Ws<|Ws<|Wg<|M' a7<|La<|M ?_
 refine WL.grp 3 [37,38] 39 (boo ((decide (x<0))&&(k==4))) ?_ ?_
 ·rcases boolE (decide (x<0)) with d | d
  ·refine Gy d<|M' a5<|Gy d<|Le<|Pt d ?_
   exact We ⟨(andT d),ag,rfl⟩
  refine Gn d<|Gn d<|Pf d ?_
  exact We ⟨(andF d),ag,rfl⟩
 intro us
 refine M<|B h fun a9 l h=>WL.grpw 3 [41,42] 43 (boo a9) (fun w=>∃ H':Hp,aa.le H'∧St t o w H' []) ?_ ?_
 ·rcases boolE ((decide (x<0))&&(k==4)) with j | j
  ·replace l:=condT l j
   refine Gy j<|M' a6<|Gy j<|B l fun bo ba l=>W.call S rfl (zDM S.holds p [105,100,101,110,116,105,116,121] ba) ?_
   rintro bp bq bb bc S rfl
   refine Pt j ?_
   exact We ⟨(congrArg boo (oi l)),ag,⟨bb,bc,S⟩⟩
  replace l:=condF l j
  refine Gn j<|Gn j<|Pf j ?_
  exact We ⟨(congrArg boo (oi l)),ag,⟨aa,(Hp.le.refl _),S⟩⟩
 intro us br ⟨bs,bt,S⟩
 refine We ?_
 rcases condE h with ⟨an,h⟩ | ⟨an,h⟩
 ·refine CT an<|Ws<|Wg<|A<|We ?_
  obtain rfl:=oi h
  refine WP.ret (Out.one rfl S rfl ?_)
  exact rfl
 refine CF an<|Wk<|Ws<|Wg<|M' a8<|A<|We ?_
 obtain rfl:=oi h
 refine WP.ret (Out.one rfl S rfl ?_)
 exact rfl
theorem zL0 {w0:World} {t:Hp} (hw:Holds w0 t) (ae:Int) (af:(List GPref)) (ah:Bool) (x:(List Str)) {aa:Value} {ab:Value} (d:Sl (α:=GPref) t aa af) (c:Sl (α:=Str) t ab x) {r:(List Str)} (h:zGa ae af ah x=some r) :
  Con Tryz.prog 143 [(int ae),aa,(boo ah),ab] w0 t (fun H' v=>Sl (α:=Str) H' v r):=by
 refine Con.mk (N:=55) Tryz.func143 rfl rfl kr rfl ?_
 have S:=St.start hw
 have bj:=d
 have bk:=c
 refine Ws<|Wg<|A<|We<|Ws<|Wg<|A<|We<|Ws<|Wg<|A<|We ?_
 refine Ws<|Ws<|Wg<|M<|Nq c<|M<|We ?_
 obtain ⟨v1,a0⟩:∃ v:Value,v=.slice none 0 0:=⟨_,rfl⟩
 have R3:Sl (α:=Str) t v1 []:=by rw [a0]; exact Sl.nil
 replace S:=St.addNilV a0 S 9 1
 obtain ⟨v4,a1⟩:∃ v:Value,v=.slice none 0 0:=⟨_,rfl⟩
 have R6:Sl (α:=Int) t v4 []:=by rw [a1]; exact Sl.nil
 replace S:=St.addNilV a1 S 3 1
 refine B h fun a2 b6 h=>WP.cut (fun f w=>∃ (a3:Hp) (au:Value),f 9=au∧Sl (α:=Str) a3 au a2∧St w0 t w a3 [.row au 9 1 a2.length]) ?_ ?_
 ·refine Wb ?_
  refine WP.loopM (zCL ae af ah x) (fun s f w=>match s with | (ai,z,av)=>∃ (H7:Hp) (p:Value) (u:Value),f 0=(int ae)∧f 1=aa∧f 2=(boo ah)∧f 9=p∧f 10=u∧f 15=ab∧f 16=(int (x.length:Int))∧f 17=(int av)∧Sl (α:=GPref) H7 aa af∧Sl (α:=Str) H7 p ai∧Sl (α:=Int) H7 u z∧Sl (α:=Str) H7 ab x∧St w0 t w H7 [.row u 3 1 z.length,.row p 9 1 ai.length]) (([]:List Str),([]:List Int),0) a2 b6 ?_ ?_
  ·exact ⟨t,v1,v4,rfl,rfl,rfl,(Eq.trans (b:=.slice none 0 0) rfl a0.symm),(Eq.trans (b:=.slice none 0 0) rfl a1.symm),rfl,rfl,rfl,d,R3,R6,c,S⟩
  intro s f w hI cy k b7
  obtain ⟨ai,z,av⟩:=s
  obtain ⟨H7,p,u,h8,h9,a6,a7,a8,a9,ba,aw,d,q,o,c,S⟩:=hI
  refine Ws<|Wg<|La' aw ba<|We<|Ws ?_
  rcases condE k with ⟨bb,k⟩ | ⟨bb,k⟩
  ·refine CT bb<|Wk<|Ws<|Wb<|Ws<|Wg<|B k fun ao b8 k=>W.idx (α:=Str) c a9 aw el34 b8 ?_
   rintro cz _ b9 rfl
   refine Lq S b9<|A<|We<|Ws<|Wg<|M' h8<|M' h9<|M' a6<|M<|B k fun ap ca k=>W.call S rfl (zJz S.holds ae af ah ao d ca) ?_
   rintro c0 c1 bp ax S rfl
   have d:=Sl.mono d ax
   have q:=Sl.mono q ax
   have o:=Sl.mono o ax
   have c:=Sl.mono c ax
   refine A<|We<|Ws<|Ws<|Wg<|M<|Lb<|We ?_
   rcases condE k with ⟨bc,k⟩ | ⟨bc,k⟩
   ·refine CT bc<|Wx<|Wg<|Lg' aw rfl<|M<|We ?_
    obtain rfl:=oi k
    exact ⟨rfl,⟨bp,p,u,h8,h9,a6,a7,a8,a9,ba,rfl,d,q,o,c,S⟩⟩
   refine CF bc<|Wk<|Ws<|Wg<|M' a8<|Nq o<|A<|We<|Ws<|B k fun bq cb k=>WP.cut (fun f w=>∃ (an:Hp),f 0=(int ae)∧f 1=aa∧f 2=(boo ah)∧f 9=p∧f 10=u∧f 12=(str ao)∧f 13=(int ap)∧f 14=(int bq)∧f 15=ab∧f 16=(int (x.length:Int))∧f 17=(int av)∧Sl (α:=GPref) an aa af∧Sl (α:=Str) an p ai∧Sl (α:=Int) an u z∧Sl (α:=Str) an ab x∧St w0 t w an [.row u 3 1 z.length,.row p 9 1 ai.length]) ?_ ?_
   ·refine Wb ?_
    refine WP.loopM (zD1 z ap) (fun s f w=>match s with | bd=>∃ (ac:Hp),f 0=(int ae)∧f 1=aa∧f 2=(boo ah)∧f 9=p∧f 10=u∧f 12=(str ao)∧f 13=(int ap)∧f 14=(int bd)∧f 15=ab∧f 16=(int (x.length:Int))∧f 17=(int av)∧Sl (α:=GPref) ac aa af∧Sl (α:=Str) ac p ai∧Sl (α:=Int) ac u z∧Sl (α:=Str) ac ab x∧St w0 t w ac [.row u 3 1 z.length,.row p 9 1 ai.length]) (z.length:Int) bq cb ?_ ?_
    ·exact ⟨bp,h8,h9,a6,a7,a8,rfl,rfl,rfl,a9,ba,aw,d,q,o,c,S⟩
    intro bd f w hI c2 ak cc
    obtain ⟨ac,br,bs,bt,bu,be,bv,bf,ay,bw,bx,bz,d,q,o,c,S⟩:=hI
    refine Ws<|Ws<|Wg<|M' ay<|Lc<|M<|B ak fun cd ad ak=>WL.grp 8 [33,34,35,36,37,38,39] 40 (boo cd) ?_ ?_
    ·rcases boolE (decide (0<bd)) with l | l
     ·replace ad:=condT ad l
      refine Gy l<|M' be<|Gy l<|M' ay<|Gy l<|Lh<|Gy l<|B ad fun c3 ce ad=>W.idx (α:=Int) o rfl rfl el118 ce ?_
      rintro c4 _ cf rfl
      refine Gy l ?_
      refine Lq S cf<|Gy l<|M' bf<|Gy l<|La<|Pt l ?_
      exact We ⟨(congrArg boo (oi ad)),ag,rfl⟩
     replace ad:=condF ad l
     refine Gn l<|Gn l<|Gn l<|Gn l<|Gn l<|Gn l<|Gn l<|Pf l ?_
     exact We ⟨(congrArg boo (oi ad)),ag,rfl⟩
    intro us
    refine We ?_
    rcases condE ak with ⟨bg,ak⟩ | ⟨bg,ak⟩
    ·refine CT bg<|Wk<|Wb<|Wg<|M' ay<|Lh<|A<|We ?_
     obtain rfl:=oi ak
     exact ⟨rfl,⟨ac,br,bs,bt,bu,be,bv,bf,rfl,bw,bx,bz,d,q,o,c,S⟩⟩
    refine CF bg<|Wx ?_
    obtain rfl:=oi ak
    obtain rfl:=cc
    exact ⟨ac,br,bs,bt,bu,be,bv,bf,ay,bw,bx,bz,d,q,o,c,S⟩
   rintro f w ⟨an,cg,ch,ci,cj,ck,cl,cm,b0,cn,co,cp,d,q,o,c,S⟩
   refine Wg<|M' cj<|M' b0<|M' cl<|W.bslice (α:=Str) [(str ao)] ([ao]:List Str) S el34 rfl rfl rfl (by decide) (Go.Eng.encS ⟨rfl,rfl⟩ enc0) ?_
   intro c5 c6 c7 az al S
   have d:=Sl.mono d az
   have q:=Sl.mono q az
   have o:=Sl.mono o az
   have c:=Sl.mono c az
   refine B k fun c8 cq k=>W.insertRow (i:=2) (j:=0) zGL rfl (by decide) hw S (by decide) rfl rfl rfl rfl rfl q al cq ?_
   intro cr c9 da b1 b2 aq S
   have d:=Sl.mono bj b1
   have o:=b2 (show (2:Nat)≠1 from by decide) rfl o
   have c:=Sl.mono bk b1
   have al:=b2 (show (2:Nat)≠0 from by decide) rfl al
   refine M' ck<|M' b0<|M' cm<|W.bslice (α:=Int) [(int ap)] ([ap]:List Int) S el118 rfl rfl rfl (by decide) (Go.Eng.encS ⟨rfl,rfl⟩ enc0) ?_
   intro db dc dd ar bh S
   have d:=Sl.mono d ar
   have o:=Sl.mono o ar
   have c:=Sl.mono c ar
   have al:=Sl.mono al ar
   have aq:=Sl.mono aq ar
   refine B k fun de cs k=>W.insertRow (i:=2) (j:=0) zHS rfl (by decide) hw S (by decide) rfl rfl rfl rfl rfl o bh cs ?_
   intro ct df cu b3 bi cv S
   have d:=Sl.mono bj b3
   have c:=Sl.mono bk b3
   have al:=bi (show (2:Nat)≠1 from by decide) rfl al
   have aq:=bi (show (2:Nat)≠3 from by decide) rfl aq
   have bh:=bi (show (2:Nat)≠0 from by decide) rfl bh
   refine A<|A<|We<|Wg<|Lg' cp rfl<|M<|We ?_
   obtain rfl:=oi k
   exact ⟨rfl,⟨cu,cr,ct,cg,ch,ci,rfl,rfl,cn,co,rfl,d,aq,cv,c,(S.drop _ (.cons _ (.cons _ (.cons_cons _ (.cons_cons _ .slnil)))))⟩⟩
  refine CF bb<|Wx ?_
  obtain rfl:=oi k
  obtain rfl:=b7
  exact ⟨H7,p,a7,q,(S.drop _ (.cons _ (.cons_cons _ .slnil)))⟩
 rintro f w ⟨a3,au,cw,cx,S⟩
 refine Ws<|Wg<|M' cw<|A<|We ?_
 obtain rfl:=oi h
 refine WP.ret (Out.one rfl S rfl ?_)
 exact cx
theorem zE6 {k:World} {c:Hp} (hw:Holds k c) (d:(List Str)) (l:Str) {o:Value} (i:Sl (α:=Str) c o d) {r:Int} (h:zBq d l=some r) :
  Con Tryz.prog 122 [o,(str l)] k c (fun H' v=>v=(int r)):=by
 refine Con.mk (N:=19) Tryz.func122 rfl rfl kr rfl ?_
 have S:=St.start hw
 refine Ws<|Wg<|A<|We<|Ws<|Ws<|Wg<|M<|Nq i<|M<|We<|B h fun p ae h=>WP.cut (fun f w=>match p with | .inl _=>∃ (x:Hp),St k c w x [] | .inr _=>False) ?_ ?_
 ·refine Wb ?_
  refine WP.loopM (zAf d l) (fun s f w=>match s with | z=>∃ (j:Hp),f 0=o∧f 1=(str l)∧f 7=(int (d.length:Int))∧f 8=(int z)∧Sl (α:=Str) j o d∧St k c w j []) 0 p ae ?_ ?_
  ·exact ⟨c,rfl,rfl,rfl,rfl,i,S⟩
  intro z f w hI y8 b aa
  obtain ⟨j,h2,h3,h4,q,i,S⟩:=hI
  refine Ws<|Wg<|La' q h4<|We<|Ws ?_
  rcases condE b with ⟨t,b⟩ | ⟨t,b⟩
  ·refine CT t<|Wk<|Ws<|Wb<|Ws<|Wg<|M' q<|A<|We<|Ws<|Wg<|M' h3 ?_
   refine M' h2<|M<|B b fun aj af b=>W.idx (α:=Str) i rfl rfl el34 af ?_
   rintro ak _ ah rfl
   refine Lq S ah<|Na<|We ?_
   rcases condE b with ⟨u,b⟩ | ⟨u,b⟩
   ·refine CT u<|Ws<|Wg<|M<|A<|We ?_
    obtain rfl:=oi b
    obtain rfl:=aa
    obtain rfl:=oi h
    refine WP.ret (Out.one rfl S rfl ?_)
    exact rfl
   refine CF u<|Wk<|Wg<|Lg' q rfl<|M<|We ?_
   obtain rfl:=oi b
   exact ⟨rfl,⟨j,h2,h3,h4,rfl,i,S⟩⟩
  refine CF t<|Wx ?_
  obtain rfl:=oi b
  obtain rfl:=aa
  exact ⟨j,S⟩
 intro f w hM
 rcases p with _ | e
 ·obtain ⟨x,S⟩:=hM
  refine Ws<|Wg<|A<|We ?_
  obtain rfl:=oi h
  refine WP.ret (Out.one rfl S rfl ?_)
  exact rfl
 exact hM.elim
theorem zCC {f:World} {b:Hp} (hw:Holds f b) (c:(List Str)) (d:Str) {i:Value} (j:Sl (α:=Str) b i c) {r:Bool} (h:zAg c d=some r) :
  Con Tryz.prog 96 [i,(str d)] f b (fun H' v=>v=(boo r)):=by
 refine Con.mk (N:=9) Tryz.func96 rfl rfl kr rfl ?_
 have S:=St.start hw
 refine Ws<|Wg<|A<|We<|Ws<|Wg<|M<|M<|B h fun l k h=>W.call S rfl (zE6 S.holds c d j k) ?_
 rintro o p q t S rfl
 refine Ld<|A<|We ?_
 obtain rfl:=oi h
 refine WP.ret (Out.one rfl S rfl ?_)
 exact rfl
theorem zIE {t:World} {p:Hp} (hw:Holds t p) (d:GAxis) (u:(List GField)) (x:Bool) {l:Value} {ak:Value} (b:Sl (α:=Str) p l d.fValues) (j:Sl (α:=GField) p ak u) {r:(List Str)} (h:zDp d u x=some r) :
  Con Tryz.prog 108 [(agg [(str d.fName),l]),ak,(boo x)] t p (fun H' v=>Sl (α:=Str) H' v r):=by
 refine Con.mk (N:=57) Tryz.func108 rfl rfl kr rfl ?_
 have S:=St.start hw
 refine Ws<|Wg ?_
 refine W.box [(str d.fName),l] S rfl rfl ?_
 intro b1 w2 S
 refine A<|We<|Ws<|Ws<|Wg ?_
 refine WL.w (R.loadBN (i:=0) (vs:=[(str d.fName),l]) S rfl rfl lay68 rfl rfl)<|W.bslice (α:=GAxis) [(agg [(str d.fName),l])] ([d]:List GAxis) S el22 rfl rfl rfl (by decide) (Go.Eng.encS ⟨rfl,_,rfl,b⟩ enc0) ?_
 intro u3 w4 H5 am R7 S
 have b:=Sl.mono b am
 have j:=Sl.mono j am
 refine B h fun r8 ay h=>W.call S rfl (zCD S.holds ([d]:List GAxis) R7 ay) ?_
 rintro v9 b4 b5 an S rfl
 have b:=Sl.mono b an
 have j:=Sl.mono j an
 refine No<|We ?_
 rcases condE h with ⟨ab,h⟩ | ⟨ab,h⟩
 ·refine CT ab<|Ws<|Wg<|A<|We ?_
  obtain rfl:=oi h
  refine WP.ret (Out.one rfl S rfl ?_)
  exact Sl.nil
 refine CF ab<|Wk<|Ws<|Wg<|A<|We<|Ws<|Ws<|Wg<|Fb ?_
 refine Lo 1 S<|B h fun ao az h=>W.call S rfl (zGC S.holds d.fName az) ?_
 rintro b6 b7 b8 ap S rfl
 have b:=Sl.mono b ap
 have j:=Sl.mono j ap
 refine A<|We<|Ws<|Wg<|M<|Lf<|We<|B h fun ac c h=>WP.cut (fun f w=>∃ (q:Hp) (z:Value),f 2=(boo x)∧f 3=(ptr b1 0)∧f 7=z∧Sl (α:=Str) q z ac∧Sl (α:=Str) q l d.fValues∧St t p w q [.box b1 68 [(str d.fName),l]]) ?_ ?_
 ·rcases condE c with ⟨ad,c⟩ | ⟨ad,c⟩
  ·refine CT ad<|Ws<|Wg<|M<|M<|B c fun aq a0 c=>W.call S rfl (zKH S.holds ao u j a0) ?_
   rintro b9 ca cb ar S ⟨cc,rfl,a1⟩
   have b:=Sl.mono b ar
   have j:=Sl.mono j ar
   refine M ?_
   refine Ex ?_
   refine Ex<|A<|A<|We<|Wg<|M<|M<|M<|Fb ?_
   refine Lo 1 S<|B c fun cd a2 c=>W.call S rfl (zL0 S.holds ao aq.1 aq.2 d.fValues a1 b a2) ?_
   rintro a3 ce a4 au S a5
   have b:=Sl.mono b au
   have j:=Sl.mono j au
   refine A<|We ?_
   obtain rfl:=oi c
   exact ⟨a4,a3,rfl,rfl,rfl,a5,b,(S.drop _ (.cons _ (.cons_cons _ .slnil)))⟩
  refine CF ad<|Ws<|Wg<|M<|Fb ?_
  refine Lo 1 S<|B c fun a6 a7 c=>W.call S rfl (zDx S.holds u d.fName j a7) ?_
  rintro cf cg ch a8 S a9
  have b:=Sl.mono b a8
  refine B c fun ae ba c=>W.call S rfl (zJN S.holds a6 a9 ba) ?_
  rintro ci cj ck bb S rfl
  have b:=Sl.mono b bb
  refine A<|We<|Ws<|Wg<|Fb ?_
  refine Lo 1 S<|M<|B c fun cl bc c=>W.call S rfl (zCC S.holds d.fValues ae b bc) ?_
  rintro cm cn bd be S rfl
  have b:=Sl.mono b be
  refine We ?_
  rcases condE c with ⟨af,c⟩ | ⟨af,c⟩
  ·refine CT af<|Wg<|M<|W.bslice (α:=Str) [(str ae)] ([ae]:List Str) S el34 rfl rfl rfl (by decide) (Go.Eng.encS ⟨rfl,rfl⟩ enc0) ?_
   intro bf co bg bh bi S
   have b:=Sl.mono b bh
   refine A<|We ?_
   obtain rfl:=oi c
   exact ⟨bg,bf,rfl,rfl,rfl,bi,b,(S.drop _ (.cons _ (.cons _ (.cons_cons _ .slnil))))⟩
  refine CF af<|Wk ?_
  obtain rfl:=oi c
  exact ⟨bd,.slice none 0 0,rfl,rfl,rfl,Sl.nil,b,(S.drop _ (.cons _ (.cons_cons _ .slnil)))⟩
 rintro f w ⟨q,z,bj,bk,av,aa,b,S⟩
 refine Ws<|Ws<|Wg<|M' av<|Nq aa<|Le<|M ?_
 refine WL.grp 3 [48,49] 50 (boo (((ac.length:Int)==0)&&(!x))) ?_ ?_
 ·rcases boolE ((ac.length:Int)==0) with k | k
  ·refine Gy k<|M' bj<|Gy k<|No<|Pt k ?_
   exact We ⟨(andT k),ag,rfl⟩
  refine Gn k<|Gn k<|Pf k ?_
  exact We ⟨(andF k),ag,rfl⟩
 intro us
 refine We<|B h fun bn o h=>WP.cut (fun f w=>∃ (ah:Hp) (ai:Value),f 7=ai∧Sl (α:=Str) ah ai bn∧St t p w ah []) ?_ ?_
 ·rcases condE o with ⟨aj,o⟩ | ⟨aj,o⟩
  ·refine CT aj<|Wg<|Fb' bk ?_
   refine Lo 0 S<|B o fun aw bo o=>W.idx (α:=Str) b rfl rfl el34 bo ?_
   rintro cp _ bp rfl
   refine Lq S bp<|W.bslice (α:=Str) [(str aw)] ([aw]:List Str) S el34 rfl rfl rfl (by decide) (Go.Eng.encS ⟨rfl,rfl⟩ enc0) ?_
   intro bq cq br bs bt S
   have aa:=Sl.mono aa bs
   refine A<|We ?_
   obtain rfl:=oi o
   exact ⟨br,bq,rfl,bt,(S.drop _ (.cons _ (.cons _ .slnil)))⟩
  refine CF aj<|Wk ?_
  obtain rfl:=oi o
  exact ⟨q,z,av,aa,(S.drop _ (.cons _ .slnil))⟩
 rintro f w ⟨ah,ai,bu,bv,S⟩
 refine Ws<|Wg<|M' bu<|A<|We ?_
 obtain rfl:=oi h
 refine WP.ret (Out.one rfl S rfl ?_)
 exact bv
end Go.Proofs
