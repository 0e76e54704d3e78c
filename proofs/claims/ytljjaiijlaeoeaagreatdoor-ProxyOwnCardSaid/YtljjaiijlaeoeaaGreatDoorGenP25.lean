/- A part. -/
import Derived.Test.YtljjaiijlaeoeaaGreatDoorEng38
import Derived.Test.YtljjaiijlaeoeaaGreatDoorEng36
import Derived.Test.YtljjaiijlaeoeaaGreatDoorGenP24
namespace Go.Proofs
set_option maxHeartbeats 4000000
set_option maxRecDepth 10000
open Go.Eng Go.Eng.Pure
set_option linter.unusedVariables false
theorem zKz {j:World} {k:Hp} (hw:Holds j k) (hG:Tryz.Gl j) (v:Str) {r:Str} (h:zLP v=some r) :
  Cs Tryz.prog 129 [(str v)] j k r:=by
 refine CM 30 Tryz.func129 hw fun S=>?_
 refine Ws<|Wg<|A<|We<|Ws<|B h fun x aj h=>WP.cut (fun f w=>∃ (z:Hp),f 0=(str x)∧St j k w z []) ?_ ?_
 ·refine Wb ?_
  refine WP.loopM (zLT) (fun s f w=>match s with | aa=>∃ (q:Hp),f 0=(str aa)∧St j k w q []) v x (lfW aj) ?_ ?_
  ·exact ⟨k,rfl,S⟩
  intro aa f w hI y7 l ak
  obtain ⟨q,t,S⟩:=hI
  refine Ws<|Ws<|Wg<|M' t<|Ns<|Lc<|M<|B l fun al d l=>WL.grpw 4 [7,8,9] 10 (boo al) (fun w=>∃ H':Hp,q.le H'∧St j k w H' []) ?_ ?_
  ·rcases boolE (decide (0<(aa.length:Int))) with c | c
   ·replace d:=condT d c
    refine Gy c<|M' t<|Gy c<|B d fun am an d=>Ja an<|Gy c<|B d fun a6 ao d=>W.call S rfl (zLH S.holds (hG.post S.post) am ao) ?_
    rintro a7 a8 ap aq S rfl
    refine Pt c ?_
    exact We ⟨(ob d),ag,⟨ap,aq,S⟩⟩
   replace d:=condF d c
   refine Gn c<|Gn c<|Gn c<|Pf c ?_
   exact We ⟨(ob d),ag,⟨q,lr,S⟩⟩
  intro us a9 ⟨ae,ba,S⟩
  refine We ?_
  rcases condE l with ⟨ab,l⟩ | ⟨ab,l⟩
  ·refine CT ab<|Wk<|Wb<|Wg<|M' t<|B l fun bb ar l=>Jc ar<|A<|We ?_
   obtain rfl:=oi l
   exact ⟨rfl,⟨ae,rfl,S⟩⟩
  refine CF ab<|Wx ?_
  obtain rfl:=oi l
  obtain rfl:=ak
  exact ⟨ae,t,S⟩
 rintro f w ⟨z,h6,S⟩
 refine Ws<|B h fun af av h=>WP.cut (fun f w=>∃ (ah:Hp),f 0=(str af)∧St j k w ah []) ?_ ?_
 ·refine Wb ?_
  refine WP.loopM (zLM) (fun s f w=>match s with | ac=>∃ (u:Hp),f 0=(str ac)∧St j k w u []) x af (lfW av) ?_ ?_
  ·exact ⟨z,h6,S⟩
  intro ac f w hI bc o aw
  obtain ⟨u,p,S⟩:=hI
  refine Ws<|Ws<|Wg<|M' p<|Ns<|Lc<|M<|B o fun ax i o=>WL.grpw 7 [17,18,19,20,21,22] 23 (boo ax) (fun w=>∃ H':Hp,u.le H'∧St j k w H' []) ?_ ?_
  ·rcases boolE (decide (0<(ac.length:Int))) with b | b
   ·replace i:=condT i b
    refine Gy b<|M' p<|Gy b<|M' p<|Gy b<|Ns<|Gy b<|Lh<|Gy b<|B i fun ay az i=>Ja az<|Gy b<|B i fun bd a0 i=>W.call S rfl (zLH S.holds (hG.post S.post) ay a0) ?_
    rintro be bf a1 a2 S rfl
    refine Pt b ?_
    exact We ⟨(ob i),ag,⟨a1,a2,S⟩⟩
   replace i:=condF i b
   refine Gn b<|Gn b<|Gn b<|Gn b<|Gn b<|Gn b<|Pf b ?_
   exact We ⟨(ob i),ag,⟨u,lr,S⟩⟩
  intro us bg ⟨ai,bh,S⟩
  refine We ?_
  rcases condE o with ⟨ad,o⟩ | ⟨ad,o⟩
  ·refine CT ad<|Wk<|Wb<|Wg<|M' p<|M' p<|Ns<|Lh<|B o fun bi a3 o=>Jd a3<|A<|We ?_
   obtain rfl:=oi o
   exact ⟨rfl,⟨ai,rfl,S⟩⟩
  refine CF ad<|Wx ?_
  obtain rfl:=oi o
  obtain rfl:=aw
  exact ⟨ai,p,S⟩
 rintro f w ⟨ah,a4,S⟩
 refine Ws<|Wg<|M' a4<|A<|We ?_
 exact WP.ret (Rs h S)
theorem zLU {c:World} {f:Hp} (hw:Holds c f) (hG:Tryz.Gl c) (b:GField) {r:Str} (h:zLS b=some r) :
  Cs Tryz.prog 63 [(agg [(str b.fName),(str b.fValue)])] c f r:=by
 refine CM 15 Tryz.func63 hw fun S=>?_
 refine Ws<|Wg ?_
 refine W.box [(str b.fName),(str b.fValue)] S rfl rfl ?_
 intro l o S
 refine A<|We<|Ws<|Ws<|Wg<|Fb ?_
 refine Lo 0 S<|Na<|We ?_
 rcases condE h with ⟨d,h⟩ | ⟨d,h⟩
 ·refine CT d<|Ws<|Wg<|Fb ?_
  refine Lo 0 S<|B h fun p i h=>Je i<|A<|We ?_
  exact WP.ret (Rs h S)
 refine CF d<|Wk<|Ws<|Wg<|Fb ?_
 refine Lo 0 S<|B h fun q j h=>Je j<|Fb ?_
 refine Lo 0 S<|B h fun t k h=>Je k<|A<|We ?_
 exact WP.ret (Rs h S)
theorem zKV {o:World} {p:Hp} (hw:Holds o p) (hG:Tryz.Gl o) (c:GField) {r:Bool} (h:zKc c=some r) :
  Cb Tryz.prog 62 [(agg [(str c.fName),(str c.fValue)])] o p r:=by
 refine CM 25 Tryz.func62 hw fun S=>?_
 refine Ws<|Wg ?_
 refine W.box [(str c.fName),(str c.fValue)] S rfl rfl ?_
 intro b1 w2 S
 refine A<|We<|Ws<|WP.quiet S kr kr<|QFb ?_
 refine QB 0 (str c.fName)<|B h fun q x h=>WQ.call (v:=boo q) rfl (fun w H' hq S=>zJ8 S.holds (hG.post S.post) c.fName x)<|QM<|B h fun t j h=>WQ.grp 4 [7,8,9] 10 (boo t) ?_ ?_
 ·rcases boolE q with f | f
  ·replace j:=condT j f
   refine QGy f<|QFb<|QGy f ?_
   refine QB 0 (str c.fValue)<|QGy f<|B j fun z aa j=>WQ.call (v:=boo z) rfl (fun w H' hq S=>zKi S.holds (hG.post S.post) c.fValue aa)<|QPt f ?_
   exact WQ.nil ⟨(ob j),ag⟩
  replace j:=condF j f
  refine QGn f<|QGn f<|QGn f<|QPf f ?_
  exact WQ.nil ⟨(ob j),ag⟩
 intro us
 refine QM<|B h fun u k h=>WQ.grp 7 [12,13,14,15,16,17] 18 (boo u) ?_ ?_
 ·rcases boolE t with b | b
  ·replace k:=condT k b
   refine QGy b<|QFb<|QGy b ?_
   refine QB 0 (str c.fValue)<|QGy b<|B k fun ab ac k=>WQ.call (v:=str ab) rfl (fun w H' hq S=>zKz S.holds (hG.post S.post) c.fValue ac)<|QGy b<|QFb<|QGy b ?_
   refine QB 0 (str c.fValue)<|QGy b<|QNa<|QPt b ?_
   exact WQ.nil ⟨(ob k),ag⟩
  replace k:=condF k b
  refine QGn b<|QGn b<|QGn b<|QGn b<|QGn b<|QGn b<|QPf b ?_
  exact WQ.nil ⟨(ob k),ag⟩
 intro us
 refine QM<|B h fun ad l h=>WQ.grp 5 [20,21,22,23] 24 (boo ad) ?_ ?_
 ·rcases boolE u with d | d
  ·replace l:=condT l d
   refine QGy d ?_
   refine WQ.val (fun w hw=>by obtain ⟨_,hq,S⟩:=hw; exact (R.loadBN (i:=0) (vs:=[(str c.fName),(str c.fValue)]) S rfl rfl lay68 rfl rfl))<|QGy d<|B l fun ae af l=>WQ.call (v:=str ae) rfl (fun w H' hq S=>zLU S.holds (hG.post S.post) c af)<|QGy d<|QNs<|QGy d<|QLb<|QPt d ?_
   exact WQ.nil ⟨(ob l),ag⟩
  replace l:=condF l d
  refine QGn d<|QGn d<|QGn d<|QGn d<|QPf d ?_
  exact WQ.nil ⟨(ob l),ag⟩
 intro us
 refine QA<|WQ.nil ?_
 intro w3 H4 al S
 exact WP.ret (Rb h S)
theorem zLg {k:World} {l:Hp} (hw:Holds k l) (hG:Tryz.Gl k) (q:Str) (ac:(List GField)) (o:Str) (v:Bool) (t:Bool) {ap:Value} (a4:Sl l ap ac) {r:Str} (h:zLX q ac o v t=some r) :
  Cs Tryz.prog 29 [(str q),ap,(str o),(boo v),(boo t)] k l r:=by
 refine CM 67 Tryz.func29 hw fun S=>?_
 refine Ws<|Wg<|A<|We<|Ws<|Wg<|M<|B h fun u a5 h=>W.call S rfl (zKw S.holds (hG.post S.post) ac a4 a5) ?_
 rintro v2 w3 H4 b3 S d
 refine A<|We<|Ws<|Ws<|Wg<|M<|Na<|M ?_
 refine WL.grp 4 [18,19,20] 21 (boo ((q==[])||(decide (63<(u.length:Int))))) ?_ ?_
 ·rcases boolE (q==[]) with i | i
  ·refine Gn i<|Gn i<|Gn i<|Pt i ?_
   exact We ⟨(orT i),ag,rfl⟩
  refine Gy i<|M<|Gy i<|Nq d<|Gy i<|Lc<|Pf i ?_
  exact We ⟨(orF i),ag,rfl⟩
 intro us
 refine M ?_
 refine WL.grp 4 [23,24,25] 26 (boo (((q==[])||(decide (63<(u.length:Int))))||(decide (100000<(o.length:Int))))) ?_ ?_
 ·rcases boolE ((q==[])||(decide (63<(u.length:Int)))) with j | j
  ·refine Gn j<|Gn j<|Gn j<|Pt j ?_
   exact We ⟨(orT j),ag,rfl⟩
  refine Gy j<|M<|Gy j<|Ns<|Gy j<|Lc<|Pf j ?_
  exact We ⟨(orF j),ag,rfl⟩
 intro us
 refine We ?_
 rcases condE h with ⟨ad,h⟩ | ⟨ad,h⟩
 ·refine CT ad<|Ws<|Wg<|A<|We ?_
  exact WP.ret (Rs h S)
 refine CF ad<|Wk<|Ws<|Wg<|M<|B h fun a7 a8 h=>Je a8<|A<|We<|Ws<|Ws<|Wg<|A<|We<|B h fun ae a9 h=>WP.cut (fun f w=>match ae with | .inl ar=>∃ (af:Hp),f 2=(str o)∧f 3=(boo v)∧f 4=(boo t)∧f 11=(str ar)∧St k l w af [] | .inr _=>False) ?_ ?_
 ·refine Wb ?_
  refine WP.loopM (zK9 u) (fun s f w=>match s with | (au,av)=>∃ (x:Hp),f 1=v2∧f 2=(str o)∧f 3=(boo v)∧f 4=(boo t)∧f 11=(str au)∧f 12=(int av)∧Sl x v2 u∧St k l w x []) (a7,0) ae (lfW a9) ?_ ?_
  ·exact ⟨H4,rfl,rfl,rfl,rfl,rfl,rfl,d,S⟩
  intro s f w hI b4 b aw
  obtain ⟨au,av⟩:=s
  obtain ⟨x,z,ax,ay,az,a0,aa,d,S⟩:=hI
  refine Ws<|Ws<|Wg<|M' aa<|M' z<|Nq d<|La<|We ?_
  rcases condE b with ⟨ah,b⟩ | ⟨ah,b⟩
  ·refine CT ah<|Wk<|Ws<|Wb<|Ws<|Ws<|Wg<|M' z<|M' aa<|B b fun ai ba b=>W.idx (α:=GField) d rfl rfl el22 ba ?_
   rintro b5 _ bb rfl
   refine WL.w (R.loadHN (vs:=[(str ai.fName),(str ai.fValue)]) S rfl bb lay68 rfl rfl)<|B b fun b6 bc b=>W.call S rfl (zKV S.holds (hG.post S.post) ai bc) ?_
   rintro b7 b8 b9 bd S rfl
   have d:=d.up bd
   refine No<|We ?_
   rcases condE b with ⟨aj,b⟩ | ⟨aj,b⟩
   ·refine CT aj<|Ws<|Wg<|A<|We ?_
    obtain rfl:=oi b
    obtain rfl:=aw
    exact WP.ret (Rs h S)
   refine CF aj<|Wk<|Wg<|M' a0<|M' z<|M' aa<|B b fun ak be b=>W.idx (α:=GField) d rfl rfl el22 be ?_
   rintro ca _ bf rfl
   refine WL.w (R.loadHN (vs:=[(str ak.fName),(str ak.fValue)]) S rfl bf lay68 rfl rfl)<|B b fun cb bg b=>W.call S rfl (zLU S.holds (hG.post S.post) ak bg) ?_
   rintro cc cd bh bi S rfl
   have d:=d.up bi
   refine B b fun ce bj b=>Je bj<|B b fun cf bk b=>Je bk<|A<|We<|Wg<|M' aa<|Lg<|A<|We ?_
   obtain rfl:=oi b
   exact ⟨rfl,⟨bh,z,ax,ay,az,rfl,rfl,d,S⟩⟩
  refine CF ah<|Wx ?_
  obtain rfl:=oi b
  obtain rfl:=aw
  exact ⟨x,ax,ay,az,a0,S⟩
 intro f w hM
 rcases ae with ar | e
 ·obtain ⟨af,al,bn,a1,a2,S⟩:=hM
  refine Ws<|Ws<|Wg<|M' bn<|We<|B h fun bo c h=>WP.cut (fun f w=>∃ (ab:Hp),f 2=(str o)∧f 4=(boo t)∧f 11=(str bo)∧St k l w ab []) ?_ ?_
  ·rcases condE c with ⟨am,c⟩ | ⟨am,c⟩
   ·refine CT am<|Wg<|M' a2<|M' al<|Ns<|B c fun cg bp c=>W.call S rfl (zKe S.holds (hG.post S.post) (o.length:Int) bp) ?_
    rintro ch ci bq cj S rfl
    refine B c fun ck br c=>Je br<|B c fun cl bs c=>Je bs<|B c fun cm bt c=>Je bt<|A<|We ?_
    obtain rfl:=oi c
    exact ⟨bq,al,a1,rfl,S⟩
   refine CF am<|Wk ?_
   obtain rfl:=oi c
   exact ⟨af,al,a1,a2,S⟩
  rintro f w ⟨ab,bu,bv,bw,S⟩
  refine Ws<|Wg<|M' bw<|B h fun cn bx h=>Je bx<|A<|We<|Ws<|Ws<|Wg<|M<|Ns<|Lc<|We ?_
  rcases condE h with ⟨an,h⟩ | ⟨an,h⟩
  ·refine CT an<|Ws<|Wg<|A<|We ?_
   exact WP.ret (Rs h S)
  refine CF an<|Wk<|Ws<|Ws<|Wg<|M' bv<|We<|B h fun bz p h=>WP.cut (fun f w=>∃ (a3:Hp),f 11=(str bz)∧St k l w a3 []) ?_ ?_
  ·rcases condE p with ⟨ao,p⟩ | ⟨ao,p⟩
   ·refine CT ao<|Wg<|M<|M' bu<|B p fun co b0 p=>Je b0<|A<|We ?_
    obtain rfl:=oi p
    exact ⟨ab,rfl,S⟩
   refine CF ao<|Wk ?_
   obtain rfl:=oi p
   exact ⟨ab,rfl,S⟩
  rintro f w ⟨a3,b1,S⟩
  refine Ws<|Wg<|M' b1<|A<|We ?_
  exact WP.ret (Rs h S)
 exact hM.elim
theorem zKW {d:World} {f:Hp} (hw:Holds d f) (hG:Tryz.Gl d) (b:GResponse) (i:Str) {c:Value} (j:Sl f c b.fFields) {r:Str} (h:zKj b i=some r) :
  Cs Tryz.prog 11 [(agg [(int b.fMinor),(int b.fStatus),(str b.fReason),c,(str b.fBody)]),(str i)] d f r:=by
 refine CM 26 Tryz.func11 hw fun S=>?_
 refine Ws<|Wg ?_
 refine W.box [(int b.fMinor),(int b.fStatus),(str b.fReason),c,(str b.fBody)] S rfl rfl ?_
 intro x z S
 refine A<|We<|Ws<|Wg<|Fb ?_
 refine Lo 0 S<|M<|B h fun k o h=>W.call S rfl (zKt S.holds (hG.post S.post) b.fStatus i o) ?_
 rintro v4 w5 H6 p S rfl
 have j:=j.up p
 refine A<|We<|Ws<|WP.quiet S kr kr<|QFb ?_
 refine QB 0 (int b.fMinor)<|QFb ?_
 refine QB 0 (int b.fStatus)<|QFb ?_
 refine QB 0 (str b.fReason)<|B h fun l q h=>WQ.call (v:=str l) rfl (fun w H' hq S=>zKs S.holds (hG.post S.post) b.fMinor b.fStatus b.fReason q)<|QFb ?_
 refine QB 0 c<|QFb ?_
 refine QB 0 (str b.fBody)<|QM<|QNo<|QM<|QNo<|B h fun t u h=>WQ.call (v:=str t) rfl (fun w H' hq S=>zLg S.holds (hG.post S.post) l b.fFields b.fBody (!k) (!k) (j.up hq) u)<|QA<|WQ.nil ?_
 intro w8 H9 af S
 exact WP.ret (Rs h S)
theorem zKY {o:World} {p:Hp} (hw:Holds o p) (hG:Tryz.Gl o) (l:Str) (q:Int) {r:(Str×Int×Int)} (h:zKX l q=some r) :
  Con Tryz.prog 65 [(str l),(int q)] o p (fun H' v=>v=(.tuple ⟨[(str r.1),(int r.2.1),(int r.2.2)]⟩)):=by
 refine CM 60 Tryz.func65 hw fun S=>?_
 refine Ws<|Wg<|A<|A<|A<|We<|Ws<|Wg<|M<|A<|We<|Ws<|B h fun ai an h=>WP.cut (fun f w=>∃ (H6:Hp),f 0=(str l)∧f 1=(int q)∧f 7=(int ai)∧St o p w H6 []) ?_ ?_
 ·refine Wb ?_
  refine WP.loopM (zKu l) (fun s f w=>match s with | aa=>∃ (z:Hp),f 0=(str l)∧f 1=(int q)∧f 7=(int aa)∧St o p w z []) q ai (lfW an) ?_ ?_
  ·exact ⟨p,rfl,rfl,rfl,S⟩
  intro aa f w hI a1 d ao
  obtain ⟨z,t,h3,u,S⟩:=hI
  refine Ws<|Ws<|Wg<|M' u<|M' t<|Ns<|La<|M<|B d fun al i d=>WL.grp 5 [14,15,16,17] 18 (boo al) ?_ ?_
  ·rcases boolE (decide (aa<(l.length:Int))) with b | b
   ·replace i:=condT i b
    refine Gy b<|M' t<|Gy b<|M' u<|Gy b<|B i fun ap aq i=>Ja aq<|Gy b<|Mf ap 13<|Pt b ?_
    exact We ⟨(ob i),ag,rfl⟩
   replace i:=condF i b
   refine Gn b<|Gn b<|Gn b<|Gn b<|Pf b ?_
   exact We ⟨(ob i),ag,rfl⟩
  intro us
  refine M<|B d fun ar j d=>WL.grp 5 [20,21,22,23] 24 (boo ar) ?_ ?_
  ·rcases boolE al with c | c
   ·replace j:=condT j c
    refine Gy c<|M' t<|Gy c<|M' u<|Gy c<|B j fun au av j=>Ja av<|Gy c<|Mf au 10<|Pt c ?_
    exact We ⟨(ob j),ag,rfl⟩
   replace j:=condF j c
   refine Gn c<|Gn c<|Gn c<|Gn c<|Pf c ?_
   exact We ⟨(ob j),ag,rfl⟩
  intro us
  refine We ?_
  rcases condE d with ⟨ab,d⟩ | ⟨ab,d⟩
  ·refine CT ab<|Wk<|Wb<|Wg<|M' u<|Lg<|A<|We ?_
   obtain rfl:=oi d
   exact ⟨rfl,⟨z,t,h3,rfl,S⟩⟩
  refine CF ab<|Wx ?_
  obtain rfl:=oi d
  obtain rfl:=ao
  exact ⟨z,t,h3,u,S⟩
 rintro f w ⟨H6,x,h8,k,S⟩
 refine Ws<|Wb<|Ws<|Wg<|M' k<|M' h8<|Lh<|Lc<|A<|We ?_
 rcases condE h with ⟨ac,h⟩ | ⟨ac,h⟩
 ·refine CT ac<|Ws<|Wg<|A<|A<|A<|We ?_
  obtain rfl:=oi h
  refine WP.ret (Out.three rfl S rfl rfl rfl ?_)
  exact rfl
 refine CF ac<|Ws<|Wg<|M' k<|M' x<|Ns<|Le<|A<|We ?_
 rcases condE h with ⟨ad,h⟩ | ⟨ad,h⟩
 ·refine CT ad<|Ws<|Wg<|A<|A<|A<|We ?_
  obtain rfl:=oi h
  refine WP.ret (Out.three rfl S rfl rfl rfl ?_)
  exact rfl
 refine CF ad<|Ws<|Wg<|M' x<|M' k<|B h fun aw ax h=>Ja ax<|Me aw 10<|A<|We ?_
 rcases condE h with ⟨ae,h⟩ | ⟨ae,h⟩
 ·refine CT ae<|Ws<|Wg<|A<|A<|A<|We ?_
  obtain rfl:=oi h
  refine WP.ret (Out.three rfl S rfl rfl rfl ?_)
  exact rfl
 refine CF ae<|Ws<|Wg<|M' k<|Lg<|M' x<|Ns<|Le<|A<|We ?_
 rcases condE h with ⟨af,h⟩ | ⟨af,h⟩
 ·refine CT af<|Ws<|Wg<|A<|A<|A<|We ?_
  obtain rfl:=oi h
  refine WP.ret (Out.three rfl S rfl rfl rfl ?_)
  exact rfl
 refine CF af<|Ws<|Wg<|M' x<|M' k<|Lg<|B h fun ay az h=>Ja az<|Mf ay 10<|A<|We ?_
 rcases condE h with ⟨ah,h⟩ | ⟨ah,h⟩
 ·refine CT ah<|Ws<|Wg<|A<|A<|A<|We ?_
  obtain rfl:=oi h
  refine WP.ret (Out.three rfl S rfl rfl rfl ?_)
  exact rfl
 refine CF ah<|Wk<|Ws<|Wg<|M' x<|M' h8<|M' k<|B h fun a2 a0 h=>Jb a0<|M' k<|Lg<|A<|A<|A<|We ?_
 obtain rfl:=oi h
 refine WP.ret (Out.three rfl S rfl rfl rfl ?_)
 exact rfl
theorem zKp {c:World} {d:Hp} (hw:Holds c d) (hG:Tryz.Gl c) (j:Str) (i:UInt8) (o:Int) {r:Int} (h:zKr j i o=some r) :
  Ci Tryz.prog 130 [(str j),(byt i),(int o)] c d r:=by
 refine CM 21 Tryz.func130 hw fun S=>?_
 refine Ws<|Wg<|A<|We<|Ws<|Ws<|Wg<|M<|A<|We<|B h fun p ab h=>WP.cut (fun f w=>match p with | .inl _=>∃ (v:Hp),St c d w v [] | .inr _=>False) ?_ ?_
 ·refine Wb ?_
  refine WP.loopM (zLK j i) (fun s f w=>match s with | x=>∃ (k:Hp),f 0=(str j)∧f 1=(byt i)∧f 7=(int x)∧St c d w k []) o p (lfW ab) ?_ ?_
  ·exact ⟨d,rfl,rfl,rfl,S⟩
  intro x f w hI y7 b z
  obtain ⟨k,q,h3,l,S⟩:=hI
  refine Ws<|Ws<|Wg<|M' l<|M' q<|Ns<|La<|We ?_
  rcases condE b with ⟨t,b⟩ | ⟨t,b⟩
  ·refine CT t<|Wk<|Ws<|Wb<|Ws<|Wg<|M' q<|M' l<|B b fun ac ad b=>Ja ad<|M' h3<|Me ac i<|We ?_
   rcases condE b with ⟨u,b⟩ | ⟨u,b⟩
   ·refine CT u<|Ws<|Wg<|M' l<|A<|We ?_
    obtain rfl:=oi b
    obtain rfl:=z
    exact WP.ret (Ri h S)
   refine CF u<|Wk<|Wg<|M' l<|Lg<|A<|We ?_
   obtain rfl:=oi b
   exact ⟨rfl,⟨k,q,h3,rfl,S⟩⟩
  refine CF t<|Wx ?_
  obtain rfl:=oi b
  obtain rfl:=z
  exact ⟨k,S⟩
 intro f w hM
 rcases p with _ | e
 ·obtain ⟨v,S⟩:=hM
  refine Ws<|Wg<|A<|We ?_
  exact WP.ret (Ri h S)
 exact hM.elim
theorem zLe {i:World} {j:Hp} (hw:Holds i j) (hG:Tryz.Gl i) (k:Str) {r:Bool} (h:zLN k=some r) :
  Cb Tryz.prog 131 [(str k)] i j r:=by
 refine CM 22 Tryz.func131 hw fun S=>?_
 refine Ws<|Wg<|A<|We<|Ws<|Ws<|Wg<|A<|We<|B h fun q ab h=>WP.cut (fun f w=>match q with | .inl _=>∃ (v:Hp),f 0=(str k)∧St i j w v [] | .inr _=>False) ?_ ?_
 ·refine Wb ?_
  refine WP.loopM (zK3 k) (fun s f w=>match s with | x=>∃ (o:Hp),f 0=(str k)∧f 3=(int x)∧St i j w o []) 0 q (lfW ab) ?_ ?_
  ·exact ⟨j,rfl,rfl,S⟩
  intro x f w hI y7 b z
  obtain ⟨o,l,p,S⟩:=hI
  refine Ws<|Ws<|Wg<|M' p<|M' l<|Ns<|La<|We ?_
  rcases condE b with ⟨t,b⟩ | ⟨t,b⟩
  ·refine CT t<|Wk<|Ws<|Wb<|Ws<|Wg<|M' l<|M' p<|B b fun aa ac b=>Ja ac<|Ma aa 33<|M<|B b fun ad d b=>WL.grp 5 [15,16,17,18] 19 (boo ad) ?_ ?_
   ·rcases boolE (decide (aa<33)) with c | c
    ·replace d:=condT d c
     refine Gn c<|Gn c<|Gn c<|Gn c<|Pt c ?_
     exact We ⟨(ob d),ag,rfl⟩
    replace d:=condF d c
    refine Gy c<|M' l<|Gy c<|M' p<|Gy c<|B d fun ae af d=>Ja af<|Gy c<|Mc ae 126<|Pf c ?_
    exact We ⟨(ob d),ag,rfl⟩
   intro us
   refine We ?_
   rcases condE b with ⟨u,b⟩ | ⟨u,b⟩
   ·refine CT u<|Ws<|Wg<|A<|We ?_
    obtain rfl:=oi b
    obtain rfl:=z
    exact WP.ret (Rb h S)
   refine CF u<|Wk<|Wg<|M' p<|Lg<|A<|We ?_
   obtain rfl:=oi b
   exact ⟨rfl,⟨o,l,rfl,S⟩⟩
  refine CF t<|Wx ?_
  obtain rfl:=oi b
  obtain rfl:=z
  exact ⟨o,l,S⟩
 intro f w hM
 rcases q with _ | e
 ·obtain ⟨v,h6,S⟩:=hM
  refine Ws<|Wg<|M' h6<|Nb<|A<|We ?_
  exact WP.ret (Rb h S)
 exact hM.elim
theorem zKv {i:World} {j:Hp} (hw:Holds i j) (hG:Tryz.Gl i) (k:Str) {r:(Str×Str×Int×Int)} (h:zKZ k=some r) :
  Con Tryz.prog 66 [(str k)] i j (fun H' v=>v=(.tuple ⟨[(str r.1),(str r.2.1),(int r.2.2.1),(int r.2.2.2)]⟩)):=by
 refine CM 59 Tryz.func66 hw fun S=>?_
 refine Ws<|Wg<|A<|A<|A<|A<|We<|Ws<|Ws<|Wg<|M<|Ns ?_
 refine Lc<|We ?_
 rcases condE h with ⟨l,h⟩ | ⟨l,h⟩
 ·refine CT l<|Ws<|Wg<|A<|A<|A<|A<|We ?_
  obtain rfl:=oi h
  refine WP.ret (Out.four rfl S rfl rfl rfl rfl ?_)
  exact rfl
 refine CF l<|Wk<|Ws<|Wg<|M<|B h fun z aa h=>W.call S rfl (zKp S.holds (hG.post S.post) k 32 0 aa) ?_
 rintro v3 w4 H5 az S rfl
 refine A<|We<|Ws<|Ws<|Wg<|M<|La<|We ?_
 rcases condE h with ⟨o,h⟩ | ⟨o,h⟩
 ·refine CT o<|Ws<|Wg<|A<|A<|A<|A<|We ?_
  obtain rfl:=oi h
  refine WP.ret (Out.four rfl S rfl rfl rfl rfl ?_)
  exact rfl
 refine CF o<|Wk<|Ws<|Wg<|M<|M<|Lg<|B h fun r8 ac h=>W.call S rfl (zKp S.holds (hG.post S.post) k 32 (wr (z+1)) ac) ?_
 rintro v9 a1 t a2 S rfl
 refine A<|We<|Ws<|Ws<|Wg<|M<|La<|M<|B h fun u d h=>WL.grpw 6 [24,25,26,27,28] 29 (boo u) (fun w=>∃ H':Hp,t.le H'∧St i j w H' []) ?_ ?_
 ·rcases boolE (decide (r8<0)) with c | c
  ·replace d:=condT d c
   refine Gn c<|Gn c<|Gn c<|Gn c<|Gn c<|Pt c ?_
   exact We ⟨(ob d),ag,⟨t,lr,S⟩⟩
  replace d:=condF d c
  refine Gy c<|M<|Gy c<|M<|Gy c<|B d fun ad ae d=>Jd ae<|Gy c<|B d fun a3 af d=>W.call S rfl (zJ8 S.holds (hG.post S.post) ad af) ?_
  rintro a4 a5 ah ai S rfl
  refine Gy c<|No<|Pf c ?_
  exact We ⟨(ob d),ag,⟨ah,ai,S⟩⟩
 intro us a6 ⟨x,a7,S⟩
 refine M<|B h fun aj f h=>WL.grpw 8 [31,32,33,34,35,36,37] 38 (boo aj) (fun w=>∃ H':Hp,x.le H'∧St i j w H' []) ?_ ?_
 ·rcases boolE u with b | b
  ·replace f:=condT f b
   refine Gn b<|Gn b<|Gn b<|Gn b<|Gn b<|Gn b<|Gn b<|Pt b ?_
   exact We ⟨(ob f),ag,⟨x,lr,S⟩⟩
  replace f:=condF f b
  refine Gy b<|M<|Gy b<|M<|Gy b<|Lg<|Gy b<|M<|Gy b<|B f fun ak al f=>Jb al<|Gy b<|B f fun a8 am f=>W.call S rfl (zLe S.holds (hG.post S.post) ak am) ?_
  rintro a9 ba an ao S rfl
  refine Gy b<|No<|Pf b ?_
  exact We ⟨(ob f),ag,⟨an,ao,S⟩⟩
 intro us bb ⟨bc,bd,S⟩
 refine We ?_
 rcases condE h with ⟨p,h⟩ | ⟨p,h⟩
 ·refine CT p<|Ws<|Wg<|A<|A<|A<|A<|We ?_
  obtain rfl:=oi h
  refine WP.ret (Out.four rfl S rfl rfl rfl rfl ?_)
  exact rfl
 refine CF p<|Wk<|Ws<|Wg<|M<|M<|Lg<|B h fun ap aq h=>Jc aq<|B h fun be ar h=>W.call S rfl (zK2 S.holds (hG.post S.post) ap ar) ?_
 rintro bf bg bh bi S rfl
 refine M ?_
 refine Ex ?_
 refine Ex<|A<|A<|We<|Ws<|Ws<|Wg<|M<|Lf<|We ?_
 rcases condE h with ⟨q,h⟩ | ⟨q,h⟩
 ·refine CT q<|Ws<|Wg<|M<|A<|A<|A<|A<|We ?_
  obtain rfl:=oi h
  refine WP.ret (Out.four rfl S rfl rfl rfl rfl ?_)
  exact rfl
 refine CF q<|Wk<|Ws<|WP.quiet S kr kr<|QM<|QM<|B h fun bj au h=>QJd au<|QM<|QM<|QLg<|QM<|B h fun bk av h=>QJb av<|QM<|QA<|QA<|QA<|QA<|WQ.nil ?_
 intro bn bo bp S
 obtain rfl:=oi h
 refine WP.ret (Out.four rfl S rfl rfl rfl rfl ?_)
 exact rfl
theorem zKl {q:World} {u:Hp} (hw:Holds q u) (hG:Tryz.Gl q) (t:Str) {r:(GField×Int)} (h:zKh t=some r) :
  Con Tryz.prog 67 [(str t)] q u (fun H' v=>v=(.tuple ⟨[(agg [(str r.1.fName),(str r.1.fValue)]),(int r.2)]⟩)):=by
 refine CM 44 Tryz.func67 hw fun S=>?_
 refine Ws<|Wg ?_
 refine W.alloc [(str []),(str [])] S zer68 ?_
 intro b1 w2 S
 refine A<|We<|Ws<|Ws<|Wg<|M<|Ns<|Lc<|We ?_
 rcases condE h with ⟨x,h⟩ | ⟨x,h⟩
 ·refine CT x<|Ws<|Wg ?_
  refine WL.w (R.build [] [(str []),(str [])] bp68 zer68 rfl rfl) ?_
  refine W.store (i:=0) [(str []),(str [])] S rfl rfl rfl lay68 rfl rfl (Nat.le_of_ble_eq_true rfl) rfl ?_
  intro w4 S
  refine A<|We ?_
  obtain rfl:=oi h
  refine WP.ret (Out.two rfl S (Res.cellB (i:=0) (cs:=[(str []),(str [])]) S rfl rfl lay68 rfl rfl) rfl ?_)
  exact rfl
 refine CF x<|Wk<|Ws<|Wg<|M<|B h fun z ai h=>W.call S rfl (zKp S.holds (hG.post S.post) t 58 0 ai) ?_
 rintro v6 w7 H8 bc S rfl
 refine A<|We<|Ws<|Ws<|Wg<|M<|La<|M<|B h fun ae f h=>WL.grpw 6 [15,16,17,18,19] 20 (boo ae) (fun w=>∃ H':Hp,H8.le H'∧St q u w H' [.box b1 68 [(str []),(str [])]]) ?_ ?_
 ·rcases boolE (decide (z<0)) with d | d
  ·replace f:=condT f d
   refine Gn d<|Gn d<|Gn d<|Gn d<|Gn d<|Pt d ?_
   exact We ⟨(ob f),ag,⟨H8,lr,S⟩⟩
  replace f:=condF f d
  refine Gy d<|M<|Gy d<|M<|Gy d<|B f fun aj ak f=>Jd ak<|Gy d<|B f fun bd al f=>W.call S rfl (zJ8 S.holds (hG.post S.post) aj al) ?_
  rintro be bf am an S rfl
  refine Gy d<|No<|Pf d ?_
  exact We ⟨(ob f),ag,⟨am,an,S⟩⟩
 intro us bg ⟨af,bh,S⟩
 refine M<|B h fun ao k h=>WL.grpw 7 [22,23,24,25,26,27] 28 (boo ao) (fun w=>∃ H':Hp,af.le H'∧St q u w H' [.box b1 68 [(str []),(str [])]]) ?_ ?_
 ·rcases boolE ae with b | b
  ·replace k:=condT k b
   refine Gn b<|Gn b<|Gn b<|Gn b<|Gn b<|Gn b<|Pt b ?_
   exact We ⟨(ob k),ag,⟨af,lr,S⟩⟩
  replace k:=condF k b
  refine Gy b<|M<|Gy b<|M<|Gy b<|Lg<|Gy b<|B k fun ap aq k=>Jc aq<|Gy b<|B k fun bi ar k=>W.call S rfl (zKi S.holds (hG.post S.post) ap ar) ?_
  rintro bj bk au av S rfl
  refine Gy b<|No<|Pf b ?_
  exact We ⟨(ob k),ag,⟨au,av,S⟩⟩
 intro us bn ⟨bo,bp,S⟩
 refine We ?_
 rcases condE h with ⟨aa,h⟩ | ⟨aa,h⟩
 ·refine CT aa<|Ws<|Wg ?_
  refine WL.w (R.build [] [(str []),(str [])] bp68 zer68 rfl rfl) ?_
  refine W.store (i:=0) [(str []),(str [])] S rfl rfl rfl lay68 rfl rfl (Nat.le_of_ble_eq_true rfl) rfl ?_
  intro bq S
  refine A<|We ?_
  obtain rfl:=oi h
  refine WP.ret (Out.two rfl S (Res.cellB (i:=0) (cs:=[(str []),(str [])]) S rfl rfl lay68 rfl rfl) rfl ?_)
  exact rfl
 refine CF aa<|Wk<|Ws<|WP.draw kr 11 rfl (bm 11 0) rfl ?_
 have S:=S.drew
 refine At_ 0 11 1 rfl (fun _=>(R.mv (v:=str t) rfl)) ?_
 refine At_ 1 11 3 rfl (fun _=>(R.mv (v:=int z) rfl))<|B h fun c aw h=>?_
 refine At_ 2 11 7 rfl (fun _=>(R.subShi rfl rfl Tryz.underlying9 aw)) ?_
 refine At_ 3 11 15 rfl (fun _=>(R.mv (v:=str t) rfl)) ?_
 refine At_ 4 11 31 rfl (fun _=>(R.mv (v:=int z) rfl)) ?_
 refine At_ 5 11 63 rfl (fun _=>(R.add rfl rfl))<|B h fun ah ax h=>?_
 refine At_ 6 11 127 rfl (fun _=>(R.subSlo rfl rfl Tryz.underlying9 ax)) ?_
 refine WA.two (i:=7) (j:=9) (bm 11 255) (bm 11 639) rfl rfl kr rfl rfl ?_ ?_
 ·refine B h fun l ay h=>W.call S rfl (zKz S.holds (hG.post S.post) ah ay) ?_
  rintro br bs bt bu S rfl
  refine We ?_
  refine At_ 8 11 511 rfl (fun _=>(R.build [(0,(str c)),(1,(str l))] [(str c),(str l)] bp68 zer68 rfl rfl))<|WA.one (i:=9) (bm 11 1023) rfl kr rfl ?_
  refine W.alloc [(str []),(str [])] S zer68 ?_
  intro bv bw S
  refine We<|WA.one (i:=10) (bm 11 2047) rfl kr rfl ?_
  refine W.store (i:=0) [(str c),(str l)] S rfl rfl rfl lay68 rfl rfl (Nat.le_of_ble_eq_true rfl) rfl ?_
  intro az S
  refine We<|WA.done kr<|Ws<|Ws<|Wg ?_
  refine WL.w (R.loadBN (i:=0) (vs:=[(str c),(str l)]) S rfl rfl lay68 rfl rfl)<|B h fun a0 ab h=>W.call S rfl (zKV S.holds (hG.post S.post) (⟨c,l⟩:GField) ab) ?_
  rintro a1 a2 a3 a4 S rfl
  refine No<|We ?_
  rcases condE h with ⟨p,h⟩ | ⟨p,h⟩
  ·refine CT p<|Ws<|Wg ?_
   refine WL.w (R.build [] [(str []),(str [])] bp68 zer68 rfl rfl) ?_
   refine W.store (i:=1) [(str []),(str [])] S rfl rfl rfl lay68 rfl rfl (Nat.le_of_ble_eq_true rfl) rfl ?_
   intro a5 S
   refine A<|We ?_
   obtain rfl:=oi h
   refine WP.ret (Out.two rfl S (Res.cellB (i:=1) (cs:=[(str []),(str [])]) S rfl rfl lay68 rfl rfl) rfl ?_)
   exact rfl
  refine CF p<|Wk<|Ws<|Wg ?_
  refine WL.w (R.loadBN (i:=0) (vs:=[(str c),(str l)]) S rfl rfl lay68 rfl rfl) ?_
  refine W.store (i:=1) [(str c),(str l)] S rfl rfl rfl lay68 rfl rfl (Nat.le_of_ble_eq_true rfl) rfl ?_
  intro a6 S
  refine A<|We ?_
  obtain rfl:=oi h
  refine WP.ret (Out.two rfl S (Res.cellB (i:=1) (cs:=[(str c),(str l)]) S rfl rfl lay68 rfl rfl) rfl ?_)
  exact rfl
 refine W.alloc [(str []),(str [])] S zer68 ?_
 intro bx bz S
 refine We<|WA.one (i:=7) (bm 11 767) rfl kr rfl<|B h fun o a7 h=>W.call S rfl (zKz S.holds (hG.post S.post) ah a7) ?_
 rintro b0 b2 b3 b4 S rfl
 refine We ?_
 refine At_ 8 11 1023 rfl (fun _=>(R.build [(0,(str c)),(1,(str o))] [(str c),(str o)] bp68 zer68 rfl rfl))<|WA.one (i:=10) (bm 11 2047) rfl kr rfl ?_
 refine W.store (i:=0) [(str c),(str o)] S rfl rfl rfl lay68 rfl rfl (Nat.le_of_ble_eq_true rfl) rfl ?_
 intro az S
 refine We<|WA.done kr<|Ws<|Ws<|Wg ?_
 refine WL.w (R.loadBN (i:=0) (vs:=[(str c),(str o)]) S rfl rfl lay68 rfl rfl)<|B h fun a0 ab h=>W.call S rfl (zKV S.holds (hG.post S.post) (⟨c,o⟩:GField) ab) ?_
 rintro a1 a2 a3 a4 S rfl
 refine No<|We ?_
 rcases condE h with ⟨p,h⟩ | ⟨p,h⟩
 ·refine CT p<|Ws<|Wg ?_
  refine WL.w (R.build [] [(str []),(str [])] bp68 zer68 rfl rfl) ?_
  refine W.store (i:=1) [(str []),(str [])] S rfl rfl rfl lay68 rfl rfl (Nat.le_of_ble_eq_true rfl) rfl ?_
  intro a5 S
  refine A<|We ?_
  obtain rfl:=oi h
  refine WP.ret (Out.two rfl S (Res.cellB (i:=1) (cs:=[(str []),(str [])]) S rfl rfl lay68 rfl rfl) rfl ?_)
  exact rfl
 refine CF p<|Wk<|Ws<|Wg ?_
 refine WL.w (R.loadBN (i:=0) (vs:=[(str c),(str o)]) S rfl rfl lay68 rfl rfl) ?_
 refine W.store (i:=1) [(str c),(str o)] S rfl rfl rfl lay68 rfl rfl (Nat.le_of_ble_eq_true rfl) rfl ?_
 intro a6 S
 refine A<|We ?_
 obtain rfl:=oi h
 refine WP.ret (Out.two rfl S (Res.cellB (i:=1) (cs:=[(str c),(str o)]) S rfl rfl lay68 rfl rfl) rfl ?_)
 exact rfl
end Go.Proofs
