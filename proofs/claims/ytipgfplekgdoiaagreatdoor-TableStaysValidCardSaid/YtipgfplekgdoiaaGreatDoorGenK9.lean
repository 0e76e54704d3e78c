/- A part of the proof of laws of the seat: written by program over the translation. -/
import Derived.Test.YtipgfplekgdoiaaGreatDoorEng38
import Derived.Test.YtipgfplekgdoiaaGreatDoorEng32
import Derived.Test.YtipgfplekgdoiaaGreatDoorGenK8
namespace Go.Proofs
set_option maxHeartbeats 4000000
set_option maxRecDepth 10000
open Go.Eng Go.Eng.Pure
set_option linter.unusedVariables false
theorem zDv {z:World} {H0:Hp} (hw:Holds z H0) (ab:Str) {r:(GMediaType×Bool)} (h:zBU ab=some r) :
  Con Tryz.prog 189 [(str ab)] z H0 (fun H' v=>∃ u1:Value,v=(.tuple ⟨[(agg [(str r.1.fType),(str r.1.fSub),u1]),(boo r.2)]⟩)∧Sl (α:=GParam) H' u1 r.1.fParams):=by
 refine Con.mk (N:=61) Tryz.func189 rfl rfl kr rfl ?_
 have S:=St.start hw
 refine Ws<|Wg ?_
 refine W.alloc [(str []),(str []),(.slice none 0 0)] S zDQ ?_
 intro b1 w2 S
 refine A<|We<|Ws<|Wg<|M<|B h fun r3 ao h=>W.call S rfl (zFE S.holds ab ao) ?_
 rintro v4 w5 H6 bk S ⟨x,rfl,d⟩
 refine M ?_
 refine Ex ?_
 refine Ex ?_
 refine Ex<|A<|A<|A<|We<|Ws<|Ws<|Wg<|M ?_
 refine No<|We ?_
 rcases condE h with ⟨ac,h⟩ | ⟨ac,h⟩
 ·refine CT ac<|Ws<|Wg ?_
  refine WL.w (R.build [] [(str []),(str []),(.slice none 0 0)] bp158 zDQ rfl rfl) ?_
  refine W.store (i:=0) [(str []),(str []),(.slice none 0 0)] S rfl rfl rfl zA9 rfl (AllOne.all (l:=[(str []),(str []),(.slice none 0 0)]) (.cons rfl (.cons rfl (.cons rfl .nil)))) (Nat.le_of_ble_eq_true rfl) rfl ?_
  intro bn S
  refine A<|We ?_
  obtain rfl:=oi h
  refine WP.ret (Out.two rfl S (Res.cellB (i:=0) (cs:=[(str []),(str []),(.slice none 0 0)]) S rfl rfl zA9 rfl rfl) rfl ?_)
  exact ⟨_,rfl,Sl.nil⟩
 refine CF ac<|Wk<|Ws<|Wg<|M<|B h fun ap aq h=>W.call S rfl (zGG S.holds r3.1 47 0 aq) ?_
 rintro bo bp ah ar S rfl
 have d:=Sl.mono d ar
 refine A<|We<|Ws<|Ws<|Wg<|M<|La<|M<|B h fun ai k h=>WL.grpw 6 [22,23,24,25,26] 27 (boo ai) (fun w=>∃ H':Hp,ah.le H'∧St z H0 w H' [.box b1 158 [(str []),(str []),(.slice none 0 0)]]) ?_ ?_
 ·rcases boolE (decide (ap<0)) with f | f
  ·replace k:=condT k f
   refine Gn f<|Gn f<|Gn f<|Gn f<|Gn f<|Pt f ?_
   exact We ⟨(congrArg boo (oi k)),ag,⟨ah,(Hp.le.refl _),S⟩⟩
  replace k:=condF k f
  refine Gy f<|M<|Gy f<|M<|Gy f<|B k fun au av k=>Jd av<|Gy f<|B k fun bq aw k=>W.call S rfl (zA4 S.holds au aw) ?_
  rintro br bs ax aj S rfl
  have d:=Sl.mono d aj
  refine Gy f<|No<|Pf f ?_
  exact We ⟨(congrArg boo (oi k)),ag,⟨ax,aj,S⟩⟩
 intro us bt ⟨ak,ay,S⟩
 have d:=Sl.mono d ay
 refine M<|B h fun al o h=>WL.grpw 7 [29,30,31,32,33,34] 35 (boo al) (fun w=>∃ H':Hp,ak.le H'∧St z H0 w H' [.box b1 158 [(str []),(str []),(.slice none 0 0)]]) ?_ ?_
 ·rcases boolE ai with c | c
  ·replace o:=condT o c
   refine Gn c<|Gn c<|Gn c<|Gn c<|Gn c<|Gn c<|Pt c ?_
   exact We ⟨(congrArg boo (oi o)),ag,⟨ak,(Hp.le.refl _),S⟩⟩
  replace o:=condF o c
  refine Gy c<|M<|Gy c<|M<|Gy c<|Lg<|Gy c<|B o fun az a0 o=>Jc a0<|Gy c<|B o fun bu a1 o=>W.call S rfl (zA4 S.holds az a1) ?_
  rintro bv bw a2 am S rfl
  have d:=Sl.mono d am
  refine Gy c<|No<|Pf c ?_
  exact We ⟨(congrArg boo (oi o)),ag,⟨a2,am,S⟩⟩
 intro us bx ⟨bz,a3,S⟩
 have d:=Sl.mono d a3
 refine M<|B h fun a4 p h=>WL.grp 12 [37,38,39,40,41,42,43,44,45,46,47] 48 (boo a4) ?_ ?_
 ·rcases boolE al with b | b
  ·replace p:=condT p b
   refine Gn b<|Gn b<|Gn b<|Gn b<|Gn b<|WL.gund rfl rfl<|WL.gund rfl rfl<|WL.gund rfl rfl<|WL.gund rfl rfl<|WL.gund rfl rfl<|Gn b<|Pt b ?_
   exact We ⟨(congrArg boo (oi p)),ag,rfl⟩
  replace p:=condF p b
  refine Gy b<|M<|Gy b<|M<|Gy b<|B p fun a5 a6 p=>Jd a6<|Gy b<|Na<|Gy b<|M<|B p fun a7 q p=>WL.grp 6 [42,43,44,45,46] 47 (boo a7) ?_ ?_
  ·rcases boolE (a5==[42]) with j | j
   ·replace q:=condT q j
    refine Gy j<|M<|Gy j<|M<|Gy j<|Lg<|Gy j<|B q fun b0 a8 q=>Jc a8<|Gy j<|Nb<|Gy b<|Pt j ?_
    exact We ⟨(congrArg boo (oi q)),ag,rfl⟩
   replace q:=condF q j
   refine Gn j<|Gn j<|Gn j<|Gn j<|Gn j<|Gy b<|Pf j ?_
   exact We ⟨(congrArg boo (oi q)),ag,rfl⟩
  intro us
  refine Pf b ?_
  exact We ⟨(congrArg boo (oi p)),ag,rfl⟩
 intro us
 refine We ?_
 rcases condE h with ⟨ad,h⟩ | ⟨ad,h⟩
 ·refine CT ad<|Ws<|Wg ?_
  refine WL.w (R.build [] [(str []),(str []),(.slice none 0 0)] bp158 zDQ rfl rfl) ?_
  refine W.store (i:=0) [(str []),(str []),(.slice none 0 0)] S rfl rfl rfl zA9 rfl (AllOne.all (l:=[(str []),(str []),(.slice none 0 0)]) (.cons rfl (.cons rfl (.cons rfl .nil)))) (Nat.le_of_ble_eq_true rfl) rfl ?_
  intro b2 S
  refine A<|We ?_
  obtain rfl:=oi h
  refine WP.ret (Out.two rfl S (Res.cellB (i:=0) (cs:=[(str []),(str []),(.slice none 0 0)]) S rfl rfl zA9 rfl rfl) rfl ?_)
  exact ⟨_,rfl,Sl.nil⟩
 refine CF ad<|Wk<|Ws<|WP.quietTail 11 S kr kr<|QM<|QM<|B h fun a9 ba h=>QJd ba<|B h fun t bb h=>WQ.call (v:=str t) rfl (fun w H' hq S=>zB7 S.holds a9 bb)<|QM<|QM<|QLg<|B h fun bc bd h=>QJc bd<|B h fun u be h=>WQ.call (v:=str u) rfl (fun w H' hq S=>zB7 S.holds bc be)<|QM ?_
 refine WQ.val (fun _ _=>(R.build [(0,(str t)),(1,(str u)),(2,x)] [(str t),(str u),x] bp158 zDQ rfl (by obtain ⟨_,_,rfl,_⟩:=d; rfl)))<|WQ.nil ?_
 intro b3 b4 bf S
 have d:=Sl.mono d bf
 refine W.store (i:=0) [(str t),(str u),x] S rfl rfl rfl zA9 rfl (AllOne.all (l:=[(str t),(str u),x]) (.cons rfl (.cons rfl (.cons (Sl.oneC d) .nil)))) (Nat.le_of_ble_eq_true rfl) rfl ?_
 intro b5 S
 refine A<|We ?_
 obtain rfl:=oi h
 refine WP.ret (Out.two rfl S (Res.cellB (i:=0) (cs:=[(str t),(str u),x]) S rfl rfl zA9 rfl rfl) rfl ?_)
 exact ⟨_,rfl,d⟩
theorem zFx {p:World} {q:Hp} (hw:Holds p q) (j:Str) {r:(GMediaType×Bool)} (h:zCr j=some r) :
  Con Tryz.prog 149 [(str j)] p q (fun H' v=>∃ t:Value,v=(.tuple ⟨[(agg [(str r.1.fType),(str r.1.fSub),t]),(boo r.2)]⟩)∧Sl (α:=GParam) H' t r.1.fParams):=by
 refine Con.mk (N:=25) Tryz.func149 rfl rfl kr rfl ?_
 have S:=St.start hw
 refine Ws<|Wg ?_
 refine W.alloc [(str []),(str []),(.slice none 0 0)] S zDQ ?_
 intro x z S
 refine A<|We<|Ws<|Wg<|M<|B h fun b u h=>W.call S rfl (zDv S.holds j u) ?_
 rintro v4 w5 H6 ad S ⟨f,rfl,k⟩
 refine M ?_
 refine Ex ?_
 refine Ex ?_
 refine W.alloc [(str []),(str []),(.slice none 0 0)] S zDQ ?_
 intro ae af S
 refine W.store (i:=0) [(str b.1.fType),(str b.1.fSub),f] S rfl rfl rfl zA9 rfl (AllOne.all (l:=[(str b.1.fType),(str b.1.fSub),f]) (.cons rfl (.cons rfl (.cons (Sl.oneC k) .nil)))) (Nat.le_of_ble_eq_true rfl) rfl ?_
 intro ah S
 refine A<|We<|Ws<|Ws<|Wg<|M<|No<|M ?_
 refine WL.grp 4 [14,15,16] 17 (boo ((!b.2)||(b.1.fType==[42]))) ?_ ?_
 ·rcases boolE (!b.2) with c | c
  ·refine Gn c<|Gn c<|Gn c<|Pt c ?_
   exact We ⟨(orT c),ag,rfl⟩
  refine Gy c<|Fb<|Gy c ?_
  refine Lo 0 S<|Gy c<|Na<|Pf c ?_
  exact We ⟨(orF c),ag,rfl⟩
 intro us
 refine M ?_
 refine WL.grp 4 [19,20,21] 22 (boo (((!b.2)||(b.1.fType==[42]))||(b.1.fSub==[42]))) ?_ ?_
 ·rcases boolE ((!b.2)||(b.1.fType==[42])) with d | d
  ·refine Gn d<|Gn d<|Gn d<|Pt d ?_
   exact We ⟨(orT d),ag,rfl⟩
  refine Gy d<|Fb<|Gy d ?_
  refine Lo 0 S<|Gy d<|Na<|Pf d ?_
  exact We ⟨(orF d),ag,rfl⟩
 intro us
 refine We ?_
 rcases condE h with ⟨o,h⟩ | ⟨o,h⟩
 ·refine CT o<|Ws<|Wg ?_
  refine WL.w (R.build [] [(str []),(str []),(.slice none 0 0)] bp158 zDQ rfl rfl) ?_
  refine W.store (i:=1) [(str []),(str []),(.slice none 0 0)] S rfl rfl rfl zA9 rfl (AllOne.all (l:=[(str []),(str []),(.slice none 0 0)]) (.cons rfl (.cons rfl (.cons rfl .nil)))) (Nat.le_of_ble_eq_true rfl) rfl ?_
  intro ai S
  refine A<|We ?_
  obtain rfl:=oi h
  refine WP.ret (Out.two rfl S (Res.cellB (i:=1) (cs:=[(str []),(str []),(.slice none 0 0)]) S rfl rfl zA9 rfl rfl) rfl ?_)
  exact ⟨_,rfl,Sl.nil⟩
 refine CF o<|Wk<|Ws<|Wg ?_
 refine WL.w (R.loadBN (i:=0) (vs:=[(str b.1.fType),(str b.1.fSub),f]) S rfl rfl zA9 rfl rfl) ?_
 refine W.store (i:=1) [(str b.1.fType),(str b.1.fSub),f] S rfl rfl rfl zA9 rfl (AllOne.all (l:=[(str b.1.fType),(str b.1.fSub),f]) (.cons rfl (.cons rfl (.cons (Sl.oneC k) .nil)))) (Nat.le_of_ble_eq_true rfl) rfl ?_
 intro aj S
 refine A<|We ?_
 obtain rfl:=oi h
 refine WP.ret (Out.two rfl S (Res.cellB (i:=1) (cs:=[(str b.1.fType),(str b.1.fSub),f]) S rfl rfl zA9 rfl rfl) rfl ?_)
 exact ⟨_,rfl,k⟩
theorem zE9 {o:World} {k:Hp} (hw:Holds o k) (p:Str) {r:(List Str)} (h:zDN p=some r) :
  Con Tryz.prog 193 [(str p)] o k (fun H' v=>Sl (α:=Str) H' v r):=by
 refine Con.mk (N:=23) Tryz.func193 rfl rfl kr rfl ?_
 have S:=St.start hw
 refine Ws<|Wg<|A<|We<|Ws<|Wg<|A<|We ?_
 have S:=S.addNil 9 1
 refine B h fun ac ad h=>WP.cut (fun _ _=>False) ?_ (fun _ _ h=>h.elim)
 refine Wb ?_
 refine WP.loopM (zBT) (fun s f w=>match s with | (d,q)=>∃ (t:Hp) (j:Value),f 0=(str d)∧f 3=j∧Sl (α:=Str) t j q∧St o k w t [.row j 9 1 q.length]) (p,([]:List Str)) ac ad ?_ ?_
 ·exact ⟨k,.slice none 0 0,rfl,rfl,Sl.nil,S⟩
 intro s f w hI y8 b ae
 obtain ⟨d,q⟩:=s
 obtain ⟨t,j,l,x,c,S⟩:=hI
 refine Wb<|Ws<|Wg<|M' l<|B b fun z af b=>W.call S rfl (zGG S.holds d 45 0 af) ?_
 rintro ay az a0 ah S rfl
 have c:=Sl.mono c ah
 refine A<|We<|Ws<|Ws<|Wg<|M<|La<|We ?_
 rcases condE b with ⟨u,b⟩ | ⟨u,b⟩
 ·refine CT u<|Ws<|Wg<|M' x<|M' l<|W.bslice (α:=Str) [(str d)] ([d]:List Str) S el34 rfl rfl rfl (by decide) (Go.Eng.encS ⟨rfl,rfl⟩ enc0) ?_
  intro a1 a2 a3 ai aj S
  have c:=Sl.mono c ai
  refine B b fun a4 ak b=>W.app (α:=Str) (i:=1) S el34 rfl rfl rfl c aj ak ?_
  intro a5 a6 a7 al am S
  have c:=Sl.mono c al
  refine A<|We ?_
  obtain rfl:=oi b
  obtain rfl:=ae
  obtain rfl:=oi h
  refine WP.ret (Out.one rfl S rfl ?_)
  exact am
 refine CF u<|Wk<|WP.draw kr 12 rfl (bm 12 0) rfl ?_
 have S:=S.drew
 refine WA.take (i:=0) (bm 12 1) rfl kr kr kr rfl (fun _=>(R.mv (v:=j) x)) ?_
 refine WA.take (i:=1) (bm 12 3) rfl kr kr kr rfl (fun _=>(R.mv (v:=str d) l)) ?_
 refine WA.take (i:=2) (bm 12 7) rfl kr kr kr rfl (fun _=>(R.mv (v:=int z) rfl))<|B b fun aa an b=>?_
 refine WA.take (i:=3) (bm 12 15) rfl kr kr kr rfl (fun _=>(R.subShi rfl rfl Tryz.underlying9 an)) ?_
 refine WA.take (i:=6) (bm 12 79) rfl kr kr kr rfl (fun _=>(R.mv (v:=str d) l)) ?_
 refine WA.take (i:=7) (bm 12 207) rfl kr kr kr rfl (fun _=>(R.mv (v:=int z) rfl)) ?_
 refine WA.take (i:=8) (bm 12 463) rfl kr kr kr rfl (fun _=>(R.add rfl rfl))<|B b fun ao ap b=>?_
 refine WA.take (i:=9) (bm 12 975) rfl kr kr kr rfl (fun _=>(R.subSlo rfl rfl Tryz.underlying9 ap))<|WA.one (i:=4) (bm 12 991) rfl kr rfl<|W.bslice (α:=Str) [(str aa)] ([aa]:List Str) S el34 rfl rfl rfl (by decide) (Go.Eng.encS ⟨rfl,rfl⟩ enc0) ?_
 intro a8 a9 ba aq ar S
 have c:=Sl.mono c aq
 refine We<|WA.one (i:=5) (bm 12 1023) rfl kr rfl<|B b fun bb au b=>W.app (α:=Str) (i:=1) S el34 rfl rfl rfl c ar au ?_
 intro ab bc av bd aw S
 refine We ?_
 refine WA.take (i:=10) (bm 12 2047) rfl kr kr kr rfl (fun _=>(R.as (v:=ab) rfl)) ?_
 refine WA.take (i:=11) (bm 12 4095) rfl kr kr kr rfl (fun _=>(R.as (v:=str ao) rfl))<|WA.done kr ?_
 obtain rfl:=oi b
 exact ⟨rfl,⟨av,ab,rfl,rfl,aw,(S.drop _ (.cons _ (.cons_cons _ .slnil)))⟩⟩
theorem zH5 {d:World} {f:Hp} (hw:Holds d f) (c:UInt8) {r:Bool} (h:zEW c=some r) :
  Con Tryz.prog 194 [(byt c)] d f (fun H' v=>v=(boo r)):=by
 refine Con.mk (N:=9) Tryz.func194 rfl rfl kr rfl ?_
 have S:=St.start hw
 refine Ws<|Wg<|A<|We<|Ws<|Wg<|M<|Md c 48<|M ?_
 refine WL.grp 3 [6,7] 8 (boo ((decide (48≤c))&&(decide (c≤57)))) ?_ ?_
 ·rcases boolE (decide (48≤c)) with b | b
  ·refine Gy b<|M<|Gy b<|Mb c 57<|Pt b ?_
   exact We ⟨(andT b),ag,rfl⟩
  refine Gn b<|Gn b<|Pf b ?_
  exact We ⟨(andF b),ag,rfl⟩
 intro us
 refine A<|We ?_
 obtain rfl:=oi h
 refine WP.ret (Out.one rfl S rfl ?_)
 exact rfl
theorem zHO {t:World} {u:Hp} (hw:Holds t u) (am:Str) {r:Bool} (h:zGH am=some r) :
  Con Tryz.prog 150 [(str am)] t u (fun H' v=>v=(boo r)):=by
 refine Con.mk (N:=67) Tryz.func150 rfl rfl kr rfl ?_
 have S:=St.start hw
 refine Ws<|Wg<|A<|We<|Ws<|Wg<|M<|B h fun r1 a2 h=>W.call S rfl (zE9 S.holds am a2) ?_
 rintro v2 w3 H4 bt S c
 refine A<|We<|Ws<|Ws<|Wg<|A<|We<|B h fun an a4 h=>WP.cut (fun f w=>match an with | .inl _=>∃ (ax:Hp),St t u w ax [] | .inr _=>False) ?_ ?_
 ·refine Wb ?_
  refine WP.loopM (zE0 r1) (fun s f w=>match s with | ad=>∃ (H7:Hp),f 3=v2∧f 4=(int ad)∧Sl (α:=Str) H7 v2 r1∧St t u w H7 []) 0 an a4 ?_ ?_
  ·exact ⟨H4,rfl,rfl,c,S⟩
  intro ad f w hI bu j ao
  obtain ⟨H7,h8,aj,c,S⟩:=hI
  refine Ws<|Ws<|Wg<|M' aj<|M' h8<|Nq c<|La<|We ?_
  rcases condE j with ⟨ap,j⟩ | ⟨ap,j⟩
  ·refine CT ap<|Wk<|Ws<|Wb<|Ws<|Ws<|Wg<|M' h8<|M' aj<|B j fun a5 a6 j=>W.idx (α:=Str) c rfl rfl el34 a6 ?_
   rintro bv _ a7 rfl
   refine Lq S a7<|Ns<|La<|M<|B j fun a8 x j=>WL.grp 7 [22,23,24,25,26,27] 28 (boo a8) ?_ ?_
   ·rcases boolE (decide ((a5.length:Int)<1)) with d | d
    ·replace x:=condT x d
     refine Gn d<|Gn d<|Gn d<|Gn d<|Gn d<|Gn d<|Pt d ?_
     exact We ⟨(congrArg boo (oi x)),ag,rfl⟩
    replace x:=condF x d
    refine Gy d<|M' h8<|Gy d<|M' aj<|Gy d<|B x fun bw a9 x=>W.idx (α:=Str) c rfl rfl el34 a9 ?_
    rintro bx _ ba rfl
    refine Gy d ?_
    refine Lq S ba<|Gy d<|Ns<|Gy d<|Lc<|Pf d ?_
    exact We ⟨(congrArg boo (oi x)),ag,rfl⟩
   intro us
   refine We ?_
   rcases condE j with ⟨aq,j⟩ | ⟨aq,j⟩
   ·refine CT aq<|Ws<|Wg<|A<|We ?_
    obtain rfl:=oi j
    obtain rfl:=ao
    obtain rfl:=oi h
    refine WP.ret (Out.one rfl S rfl ?_)
    exact rfl
   refine CF aq<|Wk<|Ws<|Wg<|A<|We<|B j fun ar bb j=>WP.cut (fun f w=>match ar with | .inl _=>∃ (ak:Hp),f 3=v2∧f 4=(int ad)∧Sl (α:=Str) ak v2 r1∧St t u w ak [] | .inr _=>False) ?_ ?_
   ·refine Wb ?_
    refine WP.loopM (zEr r1 ad) (fun s f w=>match s with | ay=>∃ (z:Hp),f 3=v2∧f 4=(int ad)∧f 5=(int ay)∧Sl (α:=Str) z v2 r1∧St t u w z []) 0 ar bb ?_ ?_
    ·exact ⟨H7,h8,aj,rfl,c,S⟩
    intro ay f w hI bz i az
    obtain ⟨z,al,ah,au,c,S⟩:=hI
    refine Ws<|Ws<|Wg<|M' au<|M' al<|M' ah<|B i fun b0 bc i=>W.idx (α:=Str) c rfl rfl el34 bc ?_
    rintro b1 _ bd rfl
    refine Lq S bd<|Ns<|La<|We ?_
    rcases condE i with ⟨av,i⟩ | ⟨av,i⟩
    ·refine CT av<|Wk<|Ws<|Wb<|Ws<|Wg<|M' al<|M' ah<|B i fun b2 be i=>W.idx (α:=Str) c rfl rfl el34 be ?_
     rintro b3 _ bf rfl
     refine Lq S bf<|M' au<|B i fun b bg i=>Ja bg<|A<|We<|Ws<|Wg<|M<|Md b 97<|M ?_
     refine WL.grp 3 [47,48] 49 (boo ((decide (97≤b))&&(decide (b≤122)))) ?_ ?_
     ·rcases boolE (decide (97≤b)) with o | o
      ·refine Gy o<|M<|Gy o<|Mb b 122<|Pt o ?_
       exact We ⟨(andT o),ag,rfl⟩
      refine Gn o<|Gn o<|Pf o ?_
      exact We ⟨(andF o),ag,rfl⟩
     intro us
     refine M ?_
     refine WL.grp 7 [51,52,53,54,55,56] 57 (boo (((decide (97≤b))&&(decide (b≤122)))||((decide (65≤b))&&(decide (b≤90))))) ?_ ?_
     ·rcases boolE ((decide (97≤b))&&(decide (b≤122))) with k | k
      ·refine Gn k<|Gn k<|Gn k<|WL.gund rfl rfl<|WL.gund rfl rfl<|Gn k<|Pt k ?_
       exact We ⟨(orT k),ag,rfl⟩
      refine Gy k<|M<|Gy k<|Md b 65<|Gy k<|M ?_
      refine WL.grp 3 [54,55] 56 (boo ((decide (65≤b))&&(decide (b≤90)))) ?_ ?_
      ·rcases boolE (decide (65≤b)) with p | p
       ·refine Gy p<|M<|Gy p<|Mb b 90<|Gy k<|Pt p ?_
        exact We ⟨(andT p),ag,rfl⟩
       refine Gn p<|Gn p<|Gy k<|Pf p ?_
       exact We ⟨(andF p),ag,rfl⟩
      intro us
      refine Pf k ?_
      exact We ⟨(orF k),ag,rfl⟩
     intro us
     refine M<|B i fun bh aa i=>WL.grpw 7 [59,60,61,62,63,64] 65 (boo bh) (fun w=>∃ H':Hp,z.le H'∧St t u w H' []) ?_ ?_
     ·rcases boolE (((decide (97≤b))&&(decide (b≤122)))||((decide (65≤b))&&(decide (b≤90)))) with l | l
      ·replace aa:=condT aa l
       refine Gn l<|Gn l<|Gn l<|WL.gund rfl rfl<|WL.gund rfl rfl<|Gn l<|Pt l ?_
       exact We ⟨(congrArg boo (oi aa)),ag,⟨z,(Hp.le.refl _),S⟩⟩
      replace aa:=condF aa l
      refine Gy l<|M' ah<|Gy l<|Lc<|Gy l<|M<|B aa fun bi ab aa=>WL.grpw 3 [62,63] 64 (boo bi) (fun w=>∃ H':Hp,z.le H'∧St t u w H' []) ?_ ?_
      ·rcases boolE (decide (0<ad)) with q | q
       ·replace ab:=condT ab q
        refine Gy q<|M<|Gy q<|B ab fun b4 bj ab=>W.call S rfl (zH5 S.holds b bj) ?_
        rintro b5 b6 bk a0 S rfl
        have c:=Sl.mono c a0
        refine Gy l<|Pt q ?_
        exact We ⟨(congrArg boo (oi ab)),ag,⟨bk,a0,S⟩⟩
       replace ab:=condF ab q
       refine Gn q<|Gn q<|Gy l<|Pf q ?_
       exact We ⟨(congrArg boo (oi ab)),ag,⟨z,(Hp.le.refl _),S⟩⟩
      intro us b7 ⟨bn,a1,S⟩
      have c:=Sl.mono c a1
      refine Pf l ?_
      exact We ⟨(congrArg boo (oi aa)),ag,⟨bn,a1,S⟩⟩
     intro us b8 ⟨bo,bp,S⟩
     have c:=Sl.mono c bp
     refine No<|We ?_
     rcases condE i with ⟨aw,i⟩ | ⟨aw,i⟩
     ·refine CT aw<|Ws<|Wg<|A<|We ?_
      obtain rfl:=oi i
      obtain rfl:=az
      obtain rfl:=oi j
      obtain rfl:=ao
      obtain rfl:=oi h
      refine WP.ret (Out.one rfl S rfl ?_)
      exact rfl
     refine CF aw<|Wk<|Wg<|M' au<|Lg<|A<|We ?_
     obtain rfl:=oi i
     exact ⟨rfl,⟨bo,al,ah,rfl,c,S⟩⟩
    refine CF av<|Wx ?_
    obtain rfl:=oi i
    obtain rfl:=az
    exact ⟨z,al,ah,c,S⟩
   intro f w hM
   rcases ar with _ | e
   ·obtain ⟨ak,bq,br,c,S⟩:=hM
    refine Wg<|M' br<|Lg<|A<|We ?_
    obtain rfl:=oi j
    exact ⟨rfl,⟨ak,bq,rfl,c,S⟩⟩
   exact hM.elim
  refine CF ap<|Wx ?_
  obtain rfl:=oi j
  obtain rfl:=ao
  exact ⟨H7,S⟩
 intro f w hM
 rcases an with _ | e
 ·obtain ⟨ax,S⟩:=hM
  refine Ws<|Wg<|A<|We ?_
  obtain rfl:=oi h
  refine WP.ret (Out.one rfl S rfl ?_)
  exact rfl
 exact hM.elim
theorem zLn {d:World} {c:Hp} (hw:Holds d c) (i:Str) {r:Bool} (h:zHn i=some r) :
  Con Tryz.prog 151 [(str i)] d c (fun H' v=>v=(boo r)):=by
 refine Con.mk (N:=15) Tryz.func151 rfl rfl kr rfl ?_
 have S:=St.start hw
 refine Ws<|Wg<|A<|We<|Ws<|Ws<|Wg<|A<|We<|B h fun j z h=>WP.cut (fun f w=>match j with | .inl _=>∃ (t:Hp),St d c w t [] | .inr _=>False) ?_ ?_
 ·refine Wb ?_
  refine WP.loopM (zEL i) (fun s f w=>match s with | u=>∃ (k:Hp),f 0=(str i)∧f 3=(int u)∧St d c w k []) 0 j z ?_ ?_
  ·exact ⟨c,rfl,rfl,S⟩
  intro u f w hI y6 b x
  obtain ⟨k,l,o,S⟩:=hI
  refine Ws<|Ws<|Wg<|M' o<|M' l<|Ns<|La<|We ?_
  rcases condE b with ⟨p,b⟩ | ⟨p,b⟩
  ·refine CT p<|Wk<|Ws<|Wb<|Ws<|Wg<|M' l<|M' o<|B b fun aa ab b=>Ja ab<|B b fun af ac b=>W.call S rfl (zGW S.holds aa ac) ?_
   rintro ah ai ad aj S rfl
   refine No<|We ?_
   rcases condE b with ⟨q,b⟩ | ⟨q,b⟩
   ·refine CT q<|Ws<|Wg<|A<|We ?_
    obtain rfl:=oi b
    obtain rfl:=x
    obtain rfl:=oi h
    refine WP.ret (Out.one rfl S rfl ?_)
    exact rfl
   refine CF q<|Wk<|Wg<|M' o<|Lg<|A<|We ?_
   obtain rfl:=oi b
   exact ⟨rfl,⟨ad,l,rfl,S⟩⟩
  refine CF p<|Wx ?_
  obtain rfl:=oi b
  obtain rfl:=x
  exact ⟨k,S⟩
 intro f w hM
 rcases j with _ | e
 ·obtain ⟨t,S⟩:=hM
  refine Ws<|Wg<|A<|We ?_
  obtain rfl:=oi h
  refine WP.ret (Out.one rfl S rfl ?_)
  exact rfl
 exact hM.elim
theorem zKd {t:World} {u:Hp} (hw:Holds t u) (au:Str) (k:Str) {r:Bool} (h:zGz au k=some r) :
  Con Tryz.prog 124 [(str au),(str k)] t u (fun H' v=>v=(boo r)):=by
 refine Con.mk (N:=88) Tryz.func124 rfl rfl kr rfl ?_
 have S:=St.start hw
 refine Ws<|Wg<|A<|We<|Ws<|Ws<|Wg<|M<|B h fun r1 bo h=>W.call S rfl (zGl S.holds au bo) ?_
 rintro v2 w3 H4 cq S rfl
 refine We<|B h fun j9 c h=>WP.cut (fun f w=>match j9 with | .inl _=>∃ (H6:Hp),f 1=(str k)∧St t u w H6 [] | .inr _=>False) ?_ ?_
 ·refine Wb<|Ws<|Wg<|Le<|A<|We ?_
  rcases condE c with ⟨av,c⟩ | ⟨av,c⟩
  ·refine CT av<|Ws<|Wg<|M<|B c fun j bp c=>W.call S rfl (zFx S.holds k bp) ?_
   rintro cr cs bq ct S ⟨x,rfl,o⟩
   refine M ?_
   refine Ex ?_
   refine Ex ?_
   refine W.alloc [(str []),(str []),(.slice none 0 0)] S zDQ ?_
   intro ai cu S
   refine W.store (i:=0) [(str j.1.fType),(str j.1.fSub),x] S rfl rfl rfl zA9 rfl (AllOne.all (l:=[(str j.1.fType),(str j.1.fSub),x]) (.cons rfl (.cons rfl (.cons (Sl.oneC o) .nil)))) (Nat.le_of_ble_eq_true rfl) rfl ?_
   intro cv S
   refine A<|We<|Ws<|Ws<|Wg<|A<|We<|B c fun a9 br c=>WP.cut (fun f w=>∃ (ba:Hp),f 6=(boo a9)∧St t u w ba []) ?_ ?_
   ·refine Wb ?_
    refine WP.loopM (zCe j) (fun s f w=>match s with | (aw,aj)=>∃ (ak:Hp),f 5=(ptr ai 0)∧f 6=(boo aw)∧f 7=(int aj)∧Sl (α:=GParam) ak x j.1.fParams∧St t u w ak [.box ai 158 [(str j.1.fType),(str j.1.fSub),x]]) (j.2,0) a9 br ?_ ?_
    ·exact ⟨bq,rfl,rfl,rfl,o,S⟩
    intro s f w hI cw aa bs
    obtain ⟨aw,aj⟩:=s
    obtain ⟨ak,bb,bc,bd,o,S⟩:=hI
    refine Ws<|Ws<|Wg<|M' bd<|Fb' bb ?_
    refine Lo 0 S<|Nq o<|La<|We ?_
    rcases condE aa with ⟨ax,aa⟩ | ⟨ax,aa⟩
    ·refine CT ax<|Wk<|Ws<|Wb<|Ws<|Ws<|Wg<|A<|We<|B aa fun ay bt aa=>WP.cut (fun f w=>∃ (ao:Hp),f 5=(ptr ai 0)∧f 6=(boo ay)∧f 7=(int aj)∧Sl (α:=GParam) ao x j.1.fParams∧St t u w ao [.box ai 158 [(str j.1.fType),(str j.1.fSub),x]]) ?_ ?_
     ·refine Wb ?_
      refine WP.loopM (zB5 j aj) (fun s f w=>match s with | (az,be)=>∃ (ap:Hp),f 5=(ptr ai 0)∧f 6=(boo az)∧f 7=(int aj)∧f 8=(int be)∧Sl (α:=GParam) ap x j.1.fParams∧St t u w ap [.box ai 158 [(str j.1.fType),(str j.1.fSub),x]]) (aw,0) ay bt ?_ ?_
      ·exact ⟨ak,bb,bc,bd,rfl,o,S⟩
      intro s f w hI cx ah bu
      obtain ⟨az,be⟩:=s
      obtain ⟨ap,aq,bf,ar,a0,o,S⟩:=hI
      refine Ws<|Ws<|Wg<|M' a0<|M' ar<|La<|We ?_
      rcases condE ah with ⟨a1,ah⟩ | ⟨a1,ah⟩
      ·refine CT a1<|Wk<|Ws<|Wb<|WP.quiet S kr kr<|QM' bf<|QM<|B ah fun bv z ah=>WQ.grp 14 [32,33,34,35,36,37,38,39,40,41,42,43,44] 45 (boo bv) ?_ ?_
       ·rcases boolE az with b | b
        ·replace z:=condT z b
         refine QGy b<|QFb' aq<|QGy b ?_
         refine WQ.val (fun w hw=>by obtain ⟨_,hq,S⟩:=hw; exact (R.loadB (i:=0) (v:=x) S rfl rfl zHW rfl))<|QGy b<|QM' ar<|QGy b<|B z fun bw bx z=>WQ.idx (α:=GParam) o rfl rfl el156 bx ?_
         rintro cy _ bz rfl
         refine QGy b<|QFc ?_
         have b0:=At.add bz 0 (by simp)
         refine QGy b ?_
         refine WQ.val (fun w hw=>by obtain ⟨_,hq,S⟩:=hw; exact (R.loadH (v:=str bw.fName) S rfl (At.mono b0 hq (by simp)) lay9 rfl))<|QGy b<|QFb' aq<|QGy b ?_
         refine WQ.val (fun w hw=>by obtain ⟨_,hq,S⟩:=hw; exact (R.loadB (i:=0) (v:=x) S rfl rfl zHW rfl))<|QGy b<|QM' a0<|QGy b<|B z fun b1 b2 z=>WQ.idx (α:=GParam) o rfl rfl el156 b2 ?_
         rintro cz _ b3 rfl
         refine QGy b<|QFc ?_
         have b4:=At.add b3 0 (by simp)
         refine QGy b ?_
         refine WQ.val (fun w hw=>by obtain ⟨_,hq,S⟩:=hw; exact (R.loadH (v:=str b1.fName) S rfl (At.mono b4 hq (by simp)) lay9 rfl))<|QGy b<|QNb<|QPt b ?_
         exact WQ.nil ⟨(congrArg boo (oi z)),ag⟩
        replace z:=condF z b
        refine QGn b<|QGn b<|QGn b<|QGn b<|QGn b<|QGn b<|QGn b<|QGn b<|QGn b<|QGn b<|QGn b<|QGn b ?_
        refine QGn b<|QPf b ?_
        exact WQ.nil ⟨(congrArg boo (oi z)),ag⟩
       intro us
       refine QA<|WQ.nil ?_
       intro c0 b5 b6 S
       have o:=Sl.mono o b6
       refine Wg<|M' a0<|Lg<|A<|We ?_
       obtain rfl:=oi ah
       exact ⟨rfl,⟨b5,aq,rfl,ar,rfl,o,S⟩⟩
      refine CF a1<|Wx ?_
      obtain rfl:=oi ah
      obtain rfl:=bu
      exact ⟨ap,aq,bf,ar,o,S⟩
     rintro f w ⟨ao,bg,b7,bh,o,S⟩
     refine Wg<|M' b7<|M<|B aa fun b8 ad aa=>WL.grp 8 [48,49,50,51,52,53,54] 55 (boo b8) ?_ ?_
     ·rcases boolE ay with d | d
      ·replace ad:=condT ad d
       refine Gy d<|Fb' bg<|Gy d ?_
       refine Lo 0 S<|Gy d<|M' bh<|Gy d<|B ad fun c1 b9 ad=>W.idx (α:=GParam) o rfl rfl el156 b9 ?_
       rintro c2 _ ca rfl
       refine Gy d<|Fc ?_
       have cb:=At.add ca 0 (by simp)
       refine Gy d ?_
       refine Lq S cb<|Gy d<|Nb<|Pt d ?_
       exact We ⟨(congrArg boo (oi ad)),ag,rfl⟩
      replace ad:=condF ad d
      refine Gn d<|Gn d<|Gn d<|Gn d<|Gn d<|Gn d<|Gn d<|Pf d ?_
      exact We ⟨(congrArg boo (oi ad)),ag,rfl⟩
     intro us
     refine A<|We<|Wg<|M' bh<|Lg<|A<|We ?_
     obtain rfl:=oi aa
     exact ⟨rfl,⟨ao,bg,rfl,rfl,o,S⟩⟩
    refine CF ax<|Wx ?_
    obtain rfl:=oi aa
    obtain rfl:=bs
    exact ⟨ak,bc,(S.drop _ (.cons _ .slnil))⟩
   rintro f w ⟨ba,cc,S⟩
   refine Ws<|Wg<|M' cc<|A<|We ?_
   obtain rfl:=oi c
   obtain rfl:=oi h
   refine WP.ret (Out.one rfl S rfl ?_)
   exact rfl
  refine CF av<|Ws<|Wg<|Le<|A<|We ?_
  rcases condE c with ⟨a2,c⟩ | ⟨a2,c⟩
  ·refine CT a2<|Ws<|Wg<|M<|B c fun c3 cd c=>W.call S rfl (zHO S.holds k cd) ?_
   rintro c4 c5 c6 c7 S rfl
   refine A<|We ?_
   obtain rfl:=oi c
   obtain rfl:=oi h
   refine WP.ret (Out.one rfl S rfl ?_)
   exact rfl
  refine CF a2<|Ws<|Ws<|Wg<|Le<|A<|We<|B c fun ce al c=>WP.cut (fun f w=>∃ (a3:Hp),f 1=(str k)∧f 61=(boo ce)∧St t u w a3 []) ?_ ?_
  ·rcases condE al with ⟨a4,al⟩ | ⟨a4,al⟩
   ·refine CT a4<|Wk ?_
    obtain rfl:=oi al
    exact ⟨H4,rfl,rfl,S⟩
   refine CF a4<|Wg<|Le<|A<|We ?_
   obtain rfl:=oi al
   exact ⟨H4,rfl,rfl,S⟩
  rintro f w ⟨a3,a5,bi,S⟩
  rcases condE c with ⟨a6,c⟩ | ⟨a6,c⟩
  ·refine WP.condT bi a6<|Ws<|Wg<|M' a5<|B c fun bj cf c=>W.call S rfl (zA4 S.holds k cf) ?_
   rintro c8 c9 da db S rfl
   refine M ?_
   refine WL.grp 3 [67,68] 69 (boo (bj&&(k !=[42]))) ?_ ?_
   ·rcases boolE bj with ab | ab
    ·refine Gy ab<|M' a5<|Gy ab<|Nb<|Pt ab ?_
     exact We ⟨(andT ab),ag,rfl⟩
    refine Gn ab<|Gn ab<|Pf ab ?_
    exact We ⟨(andF ab),ag,rfl⟩
   intro us
   refine A<|We ?_
   obtain rfl:=oi c
   obtain rfl:=oi h
   refine WP.ret (Out.one rfl S rfl ?_)
   exact rfl
  refine WP.condF bi a6<|Wk ?_
  obtain rfl:=oi c
  exact ⟨a3,a5,S⟩
 intro f w hM
 rcases j9 with _ | e
 ·obtain ⟨H6,h7,S⟩:=hM
  refine Ws<|Wg<|M' h7<|Ns<|Ld<|M ?_
  refine WL.grp 4 [74,75,76] 77 (boo ((decide (1≤(k.length:Int)))&&(decide ((k.length:Int)≤100)))) ?_ ?_
  ·rcases boolE (decide (1≤(k.length:Int))) with q | q
   ·refine Gy q<|M' h7<|Gy q<|Ns<|Gy q<|Lb<|Pt q ?_
    exact We ⟨(andT q),ag,rfl⟩
   refine Gn q<|Gn q<|Gn q<|Pf q ?_
   exact We ⟨(andF q),ag,rfl⟩
  intro us
  refine M<|B h fun bk ae h=>WL.grpw 3 [79,80] 81 (boo bk) (fun w=>∃ H':Hp,H6.le H'∧St t u w H' []) ?_ ?_
  ·rcases boolE ((decide (1≤(k.length:Int)))&&(decide ((k.length:Int)≤100))) with ac | ac
   ·replace ae:=condT ae ac
    refine Gy ac<|M' h7<|Gy ac<|B ae fun dc cg ae=>W.call S rfl (zLn S.holds k cg) ?_
    rintro dd de ch ci S rfl
    refine Pt ac ?_
    exact We ⟨(congrArg boo (oi ae)),ag,⟨ch,ci,S⟩⟩
   replace ae:=condF ae ac
   refine Gn ac<|Gn ac<|Pf ac ?_
   exact We ⟨(congrArg boo (oi ae)),ag,⟨H6,(Hp.le.refl _),S⟩⟩
  intro us df ⟨bn,dh,S⟩
  refine M<|B h fun cj af h=>WL.grpw 5 [83,84,85,86] 87 (boo cj) (fun w=>∃ H':Hp,bn.le H'∧St t u w H' []) ?_ ?_
  ·rcases boolE bk with p | p
   ·replace af:=condT af p
    refine Gy p<|M' h7<|Gy p<|B af fun di ck af=>W.call S rfl (zFP S.holds k ck) ?_
    rintro dj dk cl cm S rfl
    refine Gy p<|M' h7<|Gy p<|Na<|Pt p ?_
    exact We ⟨(congrArg boo (oi af)),ag,⟨cl,cm,S⟩⟩
   replace af:=condF af p
   refine Gn p<|Gn p<|Gn p<|Gn p<|Pf p ?_
   exact We ⟨(congrArg boo (oi af)),ag,⟨bn,(Hp.le.refl _),S⟩⟩
  intro us dl ⟨dm,dn,S⟩
  refine A<|We ?_
  obtain rfl:=oi h
  refine WP.ret (Out.one rfl S rfl ?_)
  exact rfl
 exact hM.elim
theorem zBy {k:World} {l:Hp} (hw:Holds k l) (d:Int) (f:Str) {r:Str} (h:zA7 d f=some r) :
  Con Tryz.prog 91 [(int d),(str f)] k l (fun H' v=>v=(str r)):=by
 refine Con.mk (N:=20) Tryz.func91 rfl rfl kr rfl ?_
 have S:=St.start hw
 refine Ws<|Wg<|A<|We<|Ws<|Wg<|M<|B h fun o p h=>W.call S rfl (zB7 S.holds f p) ?_
 rintro q t u x S rfl
 refine A<|We<|Ws<|Ws<|Wg<|M<|Le<|M ?_
 refine WL.grp 3 [10,11] 12 (boo ((d==4)&&(o==[120,45,103,122,105,112]))) ?_ ?_
 ·rcases boolE (d==4) with b | b
  ·refine Gy b<|M<|Gy b<|Na<|Pt b ?_
   exact We ⟨(andT b),ag,rfl⟩
  refine Gn b<|Gn b<|Pf b ?_
  exact We ⟨(andF b),ag,rfl⟩
 intro us
 refine We ?_
 rcases condE h with ⟨i,h⟩ | ⟨i,h⟩
 ·refine CT i<|Ws<|Wg<|A<|We ?_
  obtain rfl:=oi h
  refine WP.ret (Out.one rfl S rfl ?_)
  exact rfl
 refine CF i<|Wk<|Ws<|Ws<|Wg<|M<|Le<|M ?_
 refine WL.grp 3 [16,17] 18 (boo ((d==4)&&(o==[120,45,99,111,109,112,114,101,115,115]))) ?_ ?_
 ·rcases boolE (d==4) with c | c
  ·refine Gy c<|M<|Gy c<|Na<|Pt c ?_
   exact We ⟨(andT c),ag,rfl⟩
  refine Gn c<|Gn c<|Pf c ?_
  exact We ⟨(andF c),ag,rfl⟩
 intro us
 refine We ?_
 rcases condE h with ⟨j,h⟩ | ⟨j,h⟩
 ·refine CT j<|Ws<|Wg<|A<|We ?_
  obtain rfl:=oi h
  refine WP.ret (Out.one rfl S rfl ?_)
  exact rfl
 refine CF j<|Wk<|Ws<|Wg<|M<|A<|We ?_
 obtain rfl:=oi h
 refine WP.ret (Out.one rfl S rfl ?_)
 exact rfl
theorem zIg {i:World} {j:Hp} (hw:Holds i j) (q:Str) (c:Str) (d:Str) {r:Bool} (h:zGX q c d=some r) :
  Con Tryz.prog 56 [(str q),(str c),(str d)] i j (fun H' v=>v=(boo r)):=by
 refine Con.mk (N:=30) Tryz.func56 rfl rfl kr rfl ?_
 have S:=St.start hw
 refine Ws<|Wg<|A<|We<|Ws<|Ws<|Wg<|M<|B h fun k ao h=>W.call S rfl (zGl S.holds q ao) ?_
 rintro v2 w3 H4 a0 S rfl
 refine A<|We<|Ws<|Wg<|M<|We<|B h fun ae b h=>WP.cut (fun f w=>match ae with | .inl _=>∃ (H6:Hp),f 1=(str c)∧f 2=(str d)∧St i j w H6 [] | .inr _=>False) ?_ ?_
 ·refine Wb<|Ws<|Ws<|Wg<|Le<|A<|We<|B b fun ap l b=>WP.cut (fun f w=>∃ (p:Hp),f 1=(str c)∧f 2=(str d)∧f 7=(int k)∧f 10=(int k)∧f 11=(boo ap)∧St i j w p []) ?_ ?_
  ·rcases condE l with ⟨t,l⟩ | ⟨t,l⟩
   ·refine CT t<|Wk ?_
    obtain rfl:=oi l
    exact ⟨H4,rfl,rfl,rfl,rfl,rfl,S⟩
   refine CF t<|Wg<|Le<|A<|We ?_
   obtain rfl:=oi l
   exact ⟨H4,rfl,rfl,rfl,rfl,rfl,S⟩
  rintro f w ⟨p,u,x,ah,ai,aj,S⟩
  rcases condE b with ⟨z,b⟩ | ⟨z,b⟩
  ·refine WP.condT aj z<|Ws<|Wg<|M' u<|M' x<|B b fun a1 aq b=>W.call S rfl (zBc S.holds c d aq) ?_
   rintro a2 a3 a4 a5 S rfl
   refine A<|We ?_
   obtain rfl:=oi b
   obtain rfl:=oi h
   refine WP.ret (Out.one rfl S rfl ?_)
   exact rfl
  refine WP.condF aj z<|Ws<|Ws<|Wg<|Le' ai rfl<|A<|We<|B b fun ar o b=>WP.cut (fun f w=>∃ (aa:Hp),f 1=(str c)∧f 2=(str d)∧f 7=(int k)∧f 17=(boo ar)∧St i j w aa []) ?_ ?_
  ·rcases condE o with ⟨ab,o⟩ | ⟨ab,o⟩
   ·refine CT ab<|Wk ?_
    obtain rfl:=oi o
    exact ⟨p,u,x,ah,rfl,S⟩
   refine CF ab<|Wg<|Le' ai rfl<|A<|We ?_
   obtain rfl:=oi o
   exact ⟨p,u,x,ah,rfl,S⟩
  rintro f w ⟨aa,ak,al,am,an,S⟩
  rcases condE b with ⟨ac,b⟩ | ⟨ac,b⟩
  ·refine WP.condT an ac<|Ws<|Wg<|M' am<|M' ak<|B b fun a6 au b=>W.call S rfl (zBy S.holds k c au) ?_
   rintro a7 a8 a9 ba S rfl
   refine M' am<|M' al<|B b fun bb av b=>W.call S rfl (zBy S.holds k d av) ?_
   rintro bc bd be bf S rfl
   refine Na<|A<|We ?_
   obtain rfl:=oi b
   obtain rfl:=oi h
   refine WP.ret (Out.one rfl S rfl ?_)
   exact rfl
  refine WP.condF an ac<|Wk ?_
  obtain rfl:=oi b
  exact ⟨aa,ak,al,S⟩
 intro f w hM
 rcases ae with _ | e
 ·obtain ⟨H6,h7,h8,S⟩:=hM
  refine Ws<|Wg<|M' h7<|M' h8<|Na<|A<|We ?_
  obtain rfl:=oi h
  refine WP.ret (Out.one rfl S rfl ?_)
  exact rfl
 exact hM.elim
end Go.Proofs
