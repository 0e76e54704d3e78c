/- A part of the proof of laws of the seat: written by program over the translation. -/
import Derived.Test.YtipgfplekgdoiaaGreatDoorEng38
import Derived.Test.YtipgfplekgdoiaaGreatDoorEng32
import Derived.Test.YtipgfplekgdoiaaGreatDoorGenK24
namespace Go.Proofs
set_option maxHeartbeats 4000000
set_option maxRecDepth 10000
open Go.Eng Go.Eng.Pure
set_option linter.unusedVariables false
theorem zS2 {w0:World} {p:Hp} (hw:Holds w0 p) (b:GEntry) (c:GEntry) {ad:Value} {ae:Value} {af:Value} {ah:Value} {ai:Value} {aj:Value} {ak:Value} {al:Value} (a3:Sl (α:=(List Str)) p ad b.fKeys) (aq:Sl (α:=Str) p ae b.fVary) (ab:Sl (α:=Str) p af b.fSnapshot) (q:Sl (α:=GField) p ah b.fFields) (a4:Sl (α:=(List Str)) p ai c.fKeys) (ar:Sl (α:=Str) p aj c.fVary) (ac:Sl (α:=Str) p ak c.fSnapshot) (t:Sl (α:=GField) p al c.fFields) {r:Bool} (h:zSs b c=some r) :
  Con Tryz.prog 32 [(agg [ad,ae,af,(str b.fReason),ah,(str b.fBody),(int b.fRequested),(int b.fReceived)]),(agg [ai,aj,ak,(str c.fReason),al,(str c.fBody),(int c.fRequested),(int c.fReceived)])] w0 p (fun H' v=>v=(boo r)):=by
 refine Con.mk (N:=59) Tryz.func32 rfl rfl kr rfl ?_
 have S:=St.start hw
 refine Ws<|Wg ?_
 refine W.box [ad,ae,af,(str b.fReason),ah,(str b.fBody),(int b.fRequested),(int b.fReceived)] S rfl rfl ?_
 intro b1 w2 S
 refine W.box [ai,aj,ak,(str c.fReason),al,(str c.fBody),(int c.fRequested),(int c.fReceived)] S rfl rfl ?_
 intro b3 w4 S
 refine A<|We<|Ws<|Wg<|Fb ?_
 refine Lo 1 S<|Fb ?_
 refine Lo 0 S<|B h fun r5 a6 h=>W.call S rfl (zSe S.holds b.fKeys c.fKeys zSl a3 a4 (fun hle hw x0 x1=>fun q0 q1 r h=>zSz hw x0 x1 q0 q1 h) a6) ?_
 rintro v6 w7 H8 am S rfl
 have aq:=Sl.mono aq am
 have ab:=Sl.mono ab am
 have q:=Sl.mono q am
 have ar:=Sl.mono ar am
 have ac:=Sl.mono ac am
 have t:=Sl.mono t am
 refine M<|B h fun ay x h=>WL.grpw 6 [11,12,13,14,15] 16 (boo ay) (fun w=>∃ H':Hp,H8.le H'∧St w0 p w H' [.box b3 36 [ai,aj,ak,(str c.fReason),al,(str c.fBody),(int c.fRequested),(int c.fReceived)],.box b1 36 [ad,ae,af,(str b.fReason),ah,(str b.fBody),(int b.fRequested),(int b.fReceived)]]) ?_ ?_
 ·rcases boolE r5 with d | d
  ·replace x:=condT x d
   refine Gy d<|Fb<|Gy d ?_
   refine Lo 1 S<|Gy d<|Fb<|Gy d ?_
   refine Lo 0 S<|Gy d<|B x fun bo bb x=>W.call S rfl (zAu S.holds b.fVary c.fVary aq ar bb) ?_
   rintro bp bq bc ao S rfl
   have ab:=Sl.mono ab ao
   have q:=Sl.mono q ao
   have ac:=Sl.mono ac ao
   have t:=Sl.mono t ao
   refine Pt d ?_
   exact We ⟨(congrArg boo (oi x)),ag,⟨bc,ao,S⟩⟩
  replace x:=condF x d
  refine Gn d<|Gn d<|Gn d<|Gn d<|Gn d<|Pf d ?_
  exact We ⟨(congrArg boo (oi x)),ag,⟨H8,(Hp.le.refl _),S⟩⟩
 intro us br ⟨az,ap,S⟩
 have ab:=Sl.mono ab ap
 have q:=Sl.mono q ap
 have ac:=Sl.mono ac ap
 have t:=Sl.mono t ap
 refine M<|B h fun a0 z h=>WL.grpw 6 [18,19,20,21,22] 23 (boo a0) (fun w=>∃ H':Hp,az.le H'∧St w0 p w H' [.box b3 36 [ai,aj,ak,(str c.fReason),al,(str c.fBody),(int c.fRequested),(int c.fReceived)],.box b1 36 [ad,ae,af,(str b.fReason),ah,(str b.fBody),(int b.fRequested),(int b.fReceived)]]) ?_ ?_
 ·rcases boolE ay with f | f
  ·replace z:=condT z f
   refine Gy f<|Fb<|Gy f ?_
   refine Lo 1 S<|Gy f<|Fb<|Gy f ?_
   refine Lo 0 S<|Gy f<|B z fun bs bd z=>W.call S rfl (zAu S.holds b.fSnapshot c.fSnapshot ab ac bd) ?_
   rintro bt bu be aw S rfl
   have q:=Sl.mono q aw
   have t:=Sl.mono t aw
   refine Pt f ?_
   exact We ⟨(congrArg boo (oi z)),ag,⟨be,aw,S⟩⟩
  replace z:=condF z f
  refine Gn f<|Gn f<|Gn f<|Gn f<|Gn f<|Pf f ?_
  exact We ⟨(congrArg boo (oi z)),ag,⟨az,(Hp.le.refl _),S⟩⟩
 intro us bv ⟨a1,a2,S⟩
 have q:=Sl.mono q a2
 have t:=Sl.mono t a2
 refine M<|B h fun u aa h=>WL.grpw 6 [25,26,27,28,29] 30 (boo u) (fun w=>∃ H':Hp,a1.le H'∧St w0 p w H' [.box b3 36 [ai,aj,ak,(str c.fReason),al,(str c.fBody),(int c.fRequested),(int c.fReceived)],.box b1 36 [ad,ae,af,(str b.fReason),ah,(str b.fBody),(int b.fRequested),(int b.fReceived)]]) ?_ ?_
 ·rcases boolE a0 with i | i
  ·replace aa:=condT aa i
   refine Gy i<|Fb<|Gy i ?_
   refine Lo 1 S<|Gy i<|Fb<|Gy i ?_
   refine Lo 0 S<|Gy i<|B aa fun bw bf aa=>W.call S rfl (zSk S.holds b.fFields c.fFields q t bf) ?_
   rintro bx bz bg bh S rfl
   refine Pt i ?_
   exact We ⟨(congrArg boo (oi aa)),ag,⟨bg,bh,S⟩⟩
  replace aa:=condF aa i
  refine Gn i<|Gn i<|Gn i<|Gn i<|Gn i<|Pf i ?_
  exact We ⟨(congrArg boo (oi aa)),ag,⟨a1,(Hp.le.refl _),S⟩⟩
 intro us b0 ⟨b2,b4,S⟩
 refine M ?_
 refine WL.grp 6 [32,33,34,35,36] 37 (boo (u&&(b.fReason==c.fReason))) ?_ ?_
 ·rcases boolE u with j | j
  ·refine Gy j<|Fb<|Gy j ?_
   refine Lo 1 S<|Gy j<|Fb<|Gy j ?_
   refine Lo 0 S<|Gy j<|Na<|Pt j ?_
   exact We ⟨(andT j),ag,rfl⟩
  refine Gn j<|Gn j<|Gn j<|Gn j<|Gn j<|Pf j ?_
  exact We ⟨(andF j),ag,rfl⟩
 intro us
 refine M ?_
 refine WL.grp 6 [39,40,41,42,43] 44 (boo ((u&&(b.fReason==c.fReason))&&(b.fBody==c.fBody))) ?_ ?_
 ·rcases boolE (u&&(b.fReason==c.fReason)) with k | k
  ·refine Gy k<|Fb<|Gy k ?_
   refine Lo 1 S<|Gy k<|Fb<|Gy k ?_
   refine Lo 0 S<|Gy k<|Na<|Pt k ?_
   exact We ⟨(andT k),ag,rfl⟩
  refine Gn k<|Gn k<|Gn k<|Gn k<|Gn k<|Pf k ?_
  exact We ⟨(andF k),ag,rfl⟩
 intro us
 refine M ?_
 refine WL.grp 6 [46,47,48,49,50] 51 (boo (((u&&(b.fReason==c.fReason))&&(b.fBody==c.fBody))&&(b.fRequested==c.fRequested))) ?_ ?_
 ·rcases boolE ((u&&(b.fReason==c.fReason))&&(b.fBody==c.fBody)) with l | l
  ·refine Gy l<|Fb<|Gy l ?_
   refine Lo 1 S<|Gy l<|Fb<|Gy l ?_
   refine Lo 0 S<|Gy l<|Le<|Pt l ?_
   exact We ⟨(andT l),ag,rfl⟩
  refine Gn l<|Gn l<|Gn l<|Gn l<|Gn l<|Pf l ?_
  exact We ⟨(andF l),ag,rfl⟩
 intro us
 refine M ?_
 refine WL.grp 6 [53,54,55,56,57] 58 (boo ((((u&&(b.fReason==c.fReason))&&(b.fBody==c.fBody))&&(b.fRequested==c.fRequested))&&(b.fReceived==c.fReceived))) ?_ ?_
 ·rcases boolE (((u&&(b.fReason==c.fReason))&&(b.fBody==c.fBody))&&(b.fRequested==c.fRequested)) with o | o
  ·refine Gy o<|Fb<|Gy o ?_
   refine Lo 1 S<|Gy o<|Fb<|Gy o ?_
   refine Lo 0 S<|Gy o<|Le<|Pt o ?_
   exact We ⟨(andT o),ag,rfl⟩
  refine Gn o<|Gn o<|Gn o<|Gn o<|Gn o<|Pf o ?_
  exact We ⟨(andF o),ag,rfl⟩
 intro us
 refine A<|We ?_
 obtain rfl:=oi h
 refine WP.ret (Out.one rfl S rfl ?_)
 exact rfl
theorem zSr {w0:World} {H0:Hp} (hw:Holds w0 H0) (au:GTable) (b:GRequest) (c:GResponse) (q:Int) {ad:Value} {ae:Value} {aj:Value} {ak:Value} (j:Sl (α:=GAxis) H0 ad au.fAxes) (k:Sl (α:=GEntry) H0 ae au.fEntries) (o:Sl (α:=GField) H0 aj b.fFields) (p:Sl (α:=GField) H0 ak c.fFields) {r:Bool} (h:zSh au b c q=some r) :
  Con Tryz.prog 8 [(agg [ad,ae]),(agg [(str b.fMethod),(str b.fTarget),(int b.fMinor),aj,(str b.fBody)]),(agg [(int c.fMinor),(int c.fStatus),(str c.fReason),ak,(str c.fBody)]),(int q)] w0 H0 (fun H' v=>v=(boo r)):=by
 refine Con.mk (N:=85) Tryz.func8 rfl rfl kr rfl ?_
 have S:=St.start hw
 refine Ws<|Wg ?_
 refine W.box [ad,ae] S rfl rfl ?_
 intro b1 w2 S
 refine W.box [(str b.fMethod),(str b.fTarget),(int b.fMinor),aj,(str b.fBody)] S rfl rfl ?_
 intro b3 w4 S
 refine W.box [(int c.fMinor),(int c.fStatus),(str c.fReason),ak,(str c.fBody)] S rfl rfl ?_
 intro b5 w6 S
 refine A<|We<|Ws<|Ws<|Wg ?_
 refine WL.w (R.loadBN (i:=2) (vs:=[ad,ae]) S rfl rfl lay25 rfl rfl)<|B h fun r7 bz h=>W.call S rfl (zK6 S.holds au j k bz) ?_
 rintro v8 w9 bq a7 S rfl
 have j:=Sl.mono j a7
 have k:=Sl.mono k a7
 have o:=Sl.mono o a7
 have p:=Sl.mono p a7
 refine No<|M<|B h fun br al h=>WL.grpw 4 [17,18,19] 20 (boo br) (fun w=>∃ H':Hp,bq.le H'∧St w0 H0 w H' [.box b5 54 [(int c.fMinor),(int c.fStatus),(str c.fReason),ak,(str c.fBody)],.box b3 52 [(str b.fMethod),(str b.fTarget),(int b.fMinor),aj,(str b.fBody)],.box b1 25 [ad,ae]]) ?_ ?_
 ·rcases boolE (!r7) with x | x
  ·replace al:=condT al x
   refine Gn x<|Gn x<|Gn x<|Pt x ?_
   exact We ⟨(congrArg boo (oi al)),ag,⟨bq,(Hp.le.refl _),S⟩⟩
  replace al:=condF al x
  refine Gy x ?_
  refine WL.w (R.loadBN (i:=1) (vs:=[(str b.fMethod),(str b.fTarget),(int b.fMinor),aj,(str b.fBody)]) S rfl rfl lay52 rfl rfl)<|Gy x<|B al fun cz b0 al=>W.call S rfl (zJv S.holds b o b0) ?_
  rintro c0 c1 b2 ay S rfl
  have j:=Sl.mono j ay
  have k:=Sl.mono k ay
  have o:=Sl.mono o ay
  have p:=Sl.mono p ay
  refine Gy x<|No<|Pf x ?_
  exact We ⟨(congrArg boo (oi al)),ag,⟨b2,ay,S⟩⟩
 intro us c2 ⟨bs,a8,S⟩
 have j:=Sl.mono j a8
 have k:=Sl.mono k a8
 have o:=Sl.mono o a8
 have p:=Sl.mono p a8
 refine M<|B h fun av am h=>WL.grpw 4 [22,23,24] 25 (boo av) (fun w=>∃ H':Hp,bs.le H'∧St w0 H0 w H' [.box b5 54 [(int c.fMinor),(int c.fStatus),(str c.fReason),ak,(str c.fBody)],.box b3 52 [(str b.fMethod),(str b.fTarget),(int b.fMinor),aj,(str b.fBody)],.box b1 25 [ad,ae]]) ?_ ?_
 ·rcases boolE br with z | z
  ·replace am:=condT am z
   refine Gn z<|Gn z<|Gn z<|Pt z ?_
   exact We ⟨(congrArg boo (oi am)),ag,⟨bs,(Hp.le.refl _),S⟩⟩
  replace am:=condF am z
  refine Gy z ?_
  refine WL.w (R.loadBN (i:=0) (vs:=[(int c.fMinor),(int c.fStatus),(str c.fReason),ak,(str c.fBody)]) S rfl rfl lay54 rfl rfl)<|Gy z<|B am fun c3 b4 am=>W.call S rfl (zJV S.holds c p b4) ?_
  rintro c4 c5 b6 az S rfl
  have j:=Sl.mono j az
  have k:=Sl.mono k az
  have o:=Sl.mono o az
  have p:=Sl.mono p az
  refine Gy z<|No<|Pf z ?_
  exact We ⟨(congrArg boo (oi am)),ag,⟨b6,az,S⟩⟩
 intro us c6 ⟨bt,a9,S⟩
 have j:=Sl.mono j a9
 have k:=Sl.mono k a9
 have o:=Sl.mono o a9
 have p:=Sl.mono p a9
 refine M ?_
 refine WL.grp 3 [27,28] 29 (boo (av||(decide (q<1)))) ?_ ?_
 ·rcases boolE av with af | af
  ·refine Gn af<|Gn af<|Pt af ?_
   exact We ⟨(orT af),ag,rfl⟩
  refine Gy af<|M<|Gy af<|La<|Pf af ?_
  exact We ⟨(orF af),ag,rfl⟩
 intro us
 refine M ?_
 refine WL.grp 3 [31,32] 33 (boo ((av||(decide (q<1)))||(decide (64<q)))) ?_ ?_
 ·rcases boolE (av||(decide (q<1))) with ah | ah
  ·refine Gn ah<|Gn ah<|Pt ah ?_
   exact We ⟨(orT ah),ag,rfl⟩
  refine Gy ah<|M<|Gy ah<|Lc<|Pf ah ?_
  exact We ⟨(orF ah),ag,rfl⟩
 intro us
 refine M<|B h fun b7 an h=>WL.grpw 5 [35,36,37,38] 39 (boo b7) (fun w=>∃ H':Hp,bt.le H'∧St w0 H0 w H' [.box b5 54 [(int c.fMinor),(int c.fStatus),(str c.fReason),ak,(str c.fBody)],.box b3 52 [(str b.fMethod),(str b.fTarget),(int b.fMinor),aj,(str b.fBody)],.box b1 25 [ad,ae]]) ?_ ?_
 ·rcases boolE ((av||(decide (q<1)))||(decide (64<q))) with t | t
  ·replace an:=condT an t
   refine Gn t<|Gn t<|Gn t<|Gn t<|Pt t ?_
   exact We ⟨(congrArg boo (oi an)),ag,⟨bt,(Hp.le.refl _),S⟩⟩
  replace an:=condF an t
  refine Gy t ?_
  refine WL.w (R.loadBN (i:=2) (vs:=[ad,ae]) S rfl rfl lay25 rfl rfl)<|Gy t<|M<|Gy t<|B an fun c7 b8 an=>W.call S rfl (zS0 S.holds au q j k b8) ?_
  rintro c8 c9 b9 a0 S rfl
  have j:=Sl.mono j a0
  have k:=Sl.mono k a0
  have o:=Sl.mono o a0
  have p:=Sl.mono p a0
  refine Gy t<|No<|Pf t ?_
  exact We ⟨(congrArg boo (oi an)),ag,⟨b9,a0,S⟩⟩
 intro us da ⟨db,ba,S⟩
 have j:=Sl.mono j ba
 have k:=Sl.mono k ba
 have o:=Sl.mono o ba
 have p:=Sl.mono p ba
 refine We ?_
 rcases condE h with ⟨bo,h⟩ | ⟨bo,h⟩
 ·refine CT bo<|Ws<|Wg<|A<|We ?_
  obtain rfl:=oi h
  refine WP.ret (Out.one rfl S rfl ?_)
  exact rfl
 refine CF bo<|Wk<|Ws<|Wg ?_
 refine WL.w (R.loadBN (i:=1) (vs:=[(str b.fMethod),(str b.fTarget),(int b.fMinor),aj,(str b.fBody)]) S rfl rfl lay52 rfl rfl) ?_
 refine WL.w (R.loadBN (i:=0) (vs:=[(int c.fMinor),(int c.fStatus),(str c.fReason),ak,(str c.fBody)]) S rfl rfl lay54 rfl rfl)<|B h fun f ca h=>W.call S rfl (zK3 S.holds b c 0 0 o p ca) ?_
 rintro dc dd de bu S ⟨bb,bc,bd,be,df,rfl,a1,a2,a3,a4,bf⟩
 have j:=Sl.mono j bu
 have k:=Sl.mono k bu
 refine M ?_
 refine Ex ?_
 refine Ex ?_
 refine W.alloc [(.slice none 0 0),(.slice none 0 0),(.slice none 0 0),(str []),(.slice none 0 0),(str []),(int 0),(int 0)] S zer36 ?_
 intro dh di S
 refine W.store (i:=0) [bb,bc,bd,(str f.1.fReason),be,(str f.1.fBody),(int f.1.fRequested),(int f.1.fReceived)] S rfl rfl rfl lay36 rfl (AllOne.all (l:=[bb,bc,bd,(str f.1.fReason),be,(str f.1.fBody),(int f.1.fRequested),(int f.1.fReceived)]) (.cons (Sl.oneC a1) (.cons (Sl.oneC a2) (.cons (Sl.oneC a3) (.cons rfl (.cons (Sl.oneC a4) (.cons rfl (.cons rfl (.cons rfl .nil))))))))) (Nat.le_of_ble_eq_true rfl) rfl ?_
 intro dj S
 refine A<|We<|Ws<|Wg ?_
 refine WL.w (R.loadBN (i:=3) (vs:=[ad,ae]) S rfl rfl lay25 rfl rfl) ?_
 refine WL.w (R.loadBN (i:=0) (vs:=[bb,bc,bd,(str f.1.fReason),be,(str f.1.fBody),(int f.1.fRequested),(int f.1.fReceived)]) S rfl rfl lay36 rfl rfl)<|M<|M<|B h fun ao cb h=>W.call S rfl (zHe S.holds au f.1 f.2 q j k a1 a2 a3 a4 bf cb) ?_
 rintro dk dl dm a5 S ⟨bg,bh,rfl,bp,bi⟩
 have a1:=Sl.mono a1 a5
 have a2:=Sl.mono a2 a5
 have a3:=Sl.mono a3 a5
 have a4:=Sl.mono a4 a5
 have bf:=Sl.mono bf a5
 refine W.alloc [(.slice none 0 0),(.slice none 0 0)] S zer25 ?_
 intro dn dp S
 refine W.store (i:=0) [bg,bh] S rfl rfl rfl lay25 rfl (AllOne.all (l:=[bg,bh]) (.cons (Sl.oneC bp) (.cons (Sl.oneC bi) .nil))) (Nat.le_of_ble_eq_true rfl) rfl ?_
 intro dq S
 refine We<|Ws<|Wg<|Fb ?_
 refine Lo 0 S<|Nq bi<|A<|We<|Ws<|WP.quiet S kr kr ?_
 refine WQ.val (fun w hw=>by obtain ⟨_,hq,S⟩:=hw; exact (R.loadBN (i:=0) (vs:=[bg,bh]) S rfl rfl lay25 rfl rfl))<|QM<|B h fun aw cc h=>WQ.call (v:=boo aw) rfl (fun w H' hq S=>zKc S.holds ao q (Sl.mono bp hq) (Sl.mono bi hq) cc)<|QM ?_
 refine WQ.grp 3 [58,59] 60 (boo (aw&&(decide (1≤(ao.fEntries.length:Int))))) ?_ ?_
 ·rcases boolE aw with ai | ai
  ·refine QGy ai<|QM<|QGy ai<|QLd<|QPt ai ?_
   exact WQ.nil ⟨(andT ai),ag⟩
  refine QGn ai<|QGn ai<|QPf ai ?_
  exact WQ.nil ⟨(andF ai),ag⟩
 intro us
 refine QM ?_
 refine WQ.grp 4 [62,63,64] 65 (boo ((aw&&(decide (1≤(ao.fEntries.length:Int))))&&(decide ((ao.fEntries.length:Int)≤q)))) ?_ ?_
 ·rcases boolE (aw&&(decide (1≤(ao.fEntries.length:Int)))) with aa | aa
  ·refine QGy aa<|QM<|QGy aa<|QM<|QGy aa<|QLb<|QPt aa ?_
   exact WQ.nil ⟨(andT aa),ag⟩
  refine QGn aa<|QGn aa<|QGn aa<|QPf aa ?_
  exact WQ.nil ⟨(andF aa),ag⟩
 intro us
 refine QM<|B h fun bv ab h=>WQ.grp 9 [67,68,69,70,71,72,73,74] 75 (boo bv) ?_ ?_
 ·rcases boolE ((aw&&(decide (1≤(ao.fEntries.length:Int))))&&(decide ((ao.fEntries.length:Int)≤q))) with d | d
  ·replace ab:=condT ab d
   refine QGy d<|QFb<|QGy d ?_
   refine WQ.val (fun w hw=>by obtain ⟨_,hq,S⟩:=hw; exact (R.loadB (i:=0) (v:=bh) S rfl rfl lay23 rfl))<|QGy d<|QM<|QGy d<|QLh<|QGy d<|B ab fun a6 cd ab=>WQ.idx (α:=GEntry) bi rfl rfl el23 cd ?_
   rintro dr _ ce ⟨cf,cg,ch,ci,rfl,cj,ck,cl,cm⟩
   refine QGy d ?_
   refine WQ.val (fun w hw=>by obtain ⟨_,hq,S⟩:=hw; exact (R.loadHN (vs:=[cf,cg,ch,(str a6.fReason),ci,(str a6.fBody),(int a6.fRequested),(int a6.fReceived)]) S rfl (At.mono ce hq (by simp)) lay36 rfl rfl))<|QGy d ?_
   refine WQ.val (fun w hw=>by obtain ⟨_,hq,S⟩:=hw; exact (R.loadBN (i:=1) (vs:=[bb,bc,bd,(str f.1.fReason),be,(str f.1.fBody),(int f.1.fRequested),(int f.1.fReceived)]) S rfl rfl lay36 rfl rfl))<|QGy d<|B ab fun cn co ab=>WQ.call (v:=boo cn) rfl (fun w H' hq S=>zS2 S.holds a6 f.1 (Sl.mono cj hq) (Sl.mono ck hq) (Sl.mono cl hq) (Sl.mono cm hq) (Sl.mono a1 hq) (Sl.mono a2 hq) (Sl.mono a3 hq) (Sl.mono a4 hq) co)<|QPt d ?_
   exact WQ.nil ⟨(congrArg boo (oi ab)),ag⟩
  replace ab:=condF ab d
  refine QGn d<|QGn d<|QGn d<|QGn d<|QGn d<|QGn d<|QGn d<|QGn d<|QPf d ?_
  exact WQ.nil ⟨(congrArg boo (oi ab)),ag⟩
 intro us
 refine QM<|B h fun bw ap h=>WQ.grp 5 [77,78,79,80] 81 (boo bw) ?_ ?_
 ·rcases boolE bv with u | u
  ·replace ap:=condT ap u
   refine QGy u<|QFb<|QGy u ?_
   refine WQ.val (fun w hw=>by obtain ⟨_,hq,S⟩:=hw; exact (R.loadB (i:=0) (v:=bg) S rfl rfl lay22 rfl))<|QGy u<|QM<|QGy u<|B ap fun cp cq ap=>WQ.call (v:=boo cp) rfl (fun w H' hq S=>zS1 S.holds ao.fAxes f.2 (Sl.mono bp hq) (Sl.mono bf hq) cq)<|QPt u ?_
   exact WQ.nil ⟨(congrArg boo (oi ap)),ag⟩
  replace ap:=condF ap u
  refine QGn u<|QGn u<|QGn u<|QGn u<|QPf u ?_
  exact WQ.nil ⟨(congrArg boo (oi ap)),ag⟩
 intro us
 refine QM<|B h fun cr aq h=>WQ.grp 2 [83] 84 (boo cr) ?_ ?_
 ·rcases boolE bw with ar | ar
  ·replace aq:=condT aq ar
   refine QGy ar<|B aq fun cs ct aq=>WQ.call (v:=boo cs) rfl (fun w H' hq S=>zH6 S.holds  ct)<|QPt ar ?_
   exact WQ.nil ⟨(congrArg boo (oi aq)),ag⟩
  replace aq:=condF aq ar
  refine QGn ar<|QPf ar ?_
  exact WQ.nil ⟨(congrArg boo (oi aq)),ag⟩
 intro us
 refine QA<|WQ.nil ?_
 intro ds dt du S
 obtain rfl:=oi h
 refine WP.ret (Out.one rfl S rfl ?_)
 exact rfl
end Go.Proofs
