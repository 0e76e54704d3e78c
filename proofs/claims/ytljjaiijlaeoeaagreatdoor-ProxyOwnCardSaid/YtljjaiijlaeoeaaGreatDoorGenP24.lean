/- A part. -/
import Derived.Test.YtljjaiijlaeoeaaGreatDoorEng38
import Derived.Test.YtljjaiijlaeoeaaGreatDoorEng36
import Derived.Test.YtljjaiijlaeoeaaGreatDoorGenP23
namespace Go.Proofs
set_option maxHeartbeats 4000000
set_option maxRecDepth 10000
open Go.Eng Go.Eng.Pure
set_option linter.unusedVariables false
theorem zKQ {o:World} {l:Hp} (hw:Holds o l) (hG:Tryz.Gl o) (b:GResponse) (c:GResponse) {p:Value} {q:Value} (u:Sl l p b.fFields) (v:Sl l q c.fFields) {r:Bool} (h:zKU b c=some r) :
  Cb Tryz.prog 8 [(agg [(int b.fMinor),(int b.fStatus),(str b.fReason),p,(str b.fBody)]),(agg [(int c.fMinor),(int c.fStatus),(str c.fReason),q,(str c.fBody)])] o l r:=by
 refine CM 38 Tryz.func8 hw fun S=>?_
 refine Ws<|Wg ?_
 refine W.box [(int b.fMinor),(int b.fStatus),(str b.fReason),p,(str b.fBody)] S rfl rfl ?_
 intro x w2 S
 refine W.box [(int c.fMinor),(int c.fStatus),(str c.fReason),q,(str c.fBody)] S rfl rfl ?_
 intro z w4 S
 refine A<|We<|Ws<|Wg<|Fb ?_
 refine Lo 1 S<|Fb ?_
 refine Lo 0 S<|Le<|M ?_
 refine WL.grp 6 [11,12,13,14,15] 16 (boo ((b.fMinor==c.fMinor)&&(b.fStatus==c.fStatus))) ?_ ?_
 ·rcases boolE (b.fMinor==c.fMinor) with d | d
  ·refine Gy d<|Fb<|Gy d ?_
   refine Lo 1 S<|Gy d<|Fb<|Gy d ?_
   refine Lo 0 S<|Gy d<|Le<|Pt d ?_
   exact We ⟨(andT d),ag,rfl⟩
  refine Gn d<|Gn d<|Gn d<|Gn d<|Gn d<|Pf d ?_
  exact We ⟨(andF d),ag,rfl⟩
 intro us
 refine M ?_
 refine WL.grp 6 [18,19,20,21,22] 23 (boo (((b.fMinor==c.fMinor)&&(b.fStatus==c.fStatus))&&(b.fReason==c.fReason))) ?_ ?_
 ·rcases boolE ((b.fMinor==c.fMinor)&&(b.fStatus==c.fStatus)) with f | f
  ·refine Gy f<|Fb<|Gy f ?_
   refine Lo 1 S<|Gy f<|Fb<|Gy f ?_
   refine Lo 0 S<|Gy f<|Na<|Pt f ?_
   exact We ⟨(andT f),ag,rfl⟩
  refine Gn f<|Gn f<|Gn f<|Gn f<|Gn f<|Pf f ?_
  exact We ⟨(andF f),ag,rfl⟩
 intro us
 refine M<|B h fun t k h=>WL.grpw 6 [25,26,27,28,29] 30 (boo t) (fun w=>∃ H':Hp,l.le H'∧St o l w H' [.box z 24 [(int c.fMinor),(int c.fStatus),(str c.fReason),q,(str c.fBody)],.box x 24 [(int b.fMinor),(int b.fStatus),(str b.fReason),p,(str b.fBody)]]) ?_ ?_
 ·rcases boolE (((b.fMinor==c.fMinor)&&(b.fStatus==c.fStatus))&&(b.fReason==c.fReason)) with i | i
  ·replace k:=condT k i
   refine Gy i<|Fb<|Gy i ?_
   refine Lo 1 S<|Gy i<|Fb<|Gy i ?_
   refine Lo 0 S<|Gy i<|B k fun af aa k=>W.call S rfl (zE3 S.holds (hG.post S.post) b.fFields c.fFields u v aa) ?_
   rintro ah ai ab ac S rfl
   refine Pt i ?_
   exact We ⟨(ob k),ag,⟨ab,ac,S⟩⟩
  replace k:=condF k i
  refine Gn i<|Gn i<|Gn i<|Gn i<|Gn i<|Pf i ?_
  exact We ⟨(ob k),ag,⟨l,lr,S⟩⟩
 intro us aj ⟨ak,al,S⟩
 refine M ?_
 refine WL.grp 6 [32,33,34,35,36] 37 (boo (t&&(b.fBody==c.fBody))) ?_ ?_
 ·rcases boolE t with j | j
  ·refine Gy j<|Fb<|Gy j ?_
   refine Lo 1 S<|Gy j<|Fb<|Gy j ?_
   refine Lo 0 S<|Gy j<|Na<|Pt j ?_
   exact We ⟨(andT j),ag,rfl⟩
  refine Gn j<|Gn j<|Gn j<|Gn j<|Gn j<|Pf j ?_
  exact We ⟨(andF j),ag,rfl⟩
 intro us
 refine A<|We ?_
 exact WP.ret (Rb h S)
theorem zKt {j:World} {l:Hp} (hw:Holds j l) (hG:Tryz.Gl j) (b:Int) (k:Str) {r:Bool} (h:zKo b k=some r) :
  Cb Tryz.prog 28 [(int b),(str k)] j l r:=by
 refine CM 23 Tryz.func28 hw fun S=>?_
 refine Ws<|Wg<|A<|We<|Ws<|Wg<|M<|Ld<|M ?_
 refine WL.grp 3 [8,9] 10 (boo ((decide (100≤b))&&(decide (b≤199)))) ?_ ?_
 ·rcases boolE (decide (100≤b)) with c | c
  ·refine Gy c<|M<|Gy c<|Lb<|Pt c ?_
   exact We ⟨(andT c),ag,rfl⟩
  refine Gn c<|Gn c<|Pf c ?_
  exact We ⟨(andF c),ag,rfl⟩
 intro us
 refine M ?_
 refine WL.grp 3 [12,13] 14 (boo (((decide (100≤b))&&(decide (b≤199)))||(b==204))) ?_ ?_
 ·rcases boolE ((decide (100≤b))&&(decide (b≤199))) with d | d
  ·refine Gn d<|Gn d<|Pt d ?_
   exact We ⟨(orT d),ag,rfl⟩
  refine Gy d<|M<|Gy d<|Le<|Pf d ?_
  exact We ⟨(orF d),ag,rfl⟩
 intro us
 refine M ?_
 refine WL.grp 3 [16,17] 18 (boo ((((decide (100≤b))&&(decide (b≤199)))||(b==204))||(b==304))) ?_ ?_
 ·rcases boolE (((decide (100≤b))&&(decide (b≤199)))||(b==204)) with f | f
  ·refine Gn f<|Gn f<|Pt f ?_
   exact We ⟨(orT f),ag,rfl⟩
  refine Gy f<|M<|Gy f<|Le<|Pf f ?_
  exact We ⟨(orF f),ag,rfl⟩
 intro us
 refine M ?_
 refine WL.grp 3 [20,21] 22 (boo (((((decide (100≤b))&&(decide (b≤199)))||(b==204))||(b==304))||(k==[72,69,65,68]))) ?_ ?_
 ·rcases boolE ((((decide (100≤b))&&(decide (b≤199)))||(b==204))||(b==304)) with i | i
  ·refine Gn i<|Gn i<|Pt i ?_
   exact We ⟨(orT i),ag,rfl⟩
  refine Gy i<|M<|Gy i<|Na<|Pf i ?_
  exact We ⟨(orF i),ag,rfl⟩
 intro us
 refine A<|We ?_
 exact WP.ret (Rb h S)
theorem zKe {j:World} {k:Hp} (hw:Holds j k) (hG:Tryz.Gl j) (l:Int) {r:Str} (h:zKd l=some r) :
  Cs Tryz.prog 64 [(int l)] j k r:=by
 refine CM 37 Tryz.func64 hw fun S=>?_
 refine Ws<|Wg<|A<|We<|Ws<|Wg<|A<|We<|Ws<|Wg<|M<|La ?_
 refine A<|We<|Ws<|Ws<|Wg<|A<|We<|B h fun ak an h=>WP.cut (fun f w=>∃ (x:Hp) (z:Value),f 3=z∧f 4=(boo (decide (l<0)))∧Sl x z ak∧St j k w x []) ?_ ?_
 ·refine Wb ?_
  refine WP.loopM (zK1) (fun s f w=>match s with | (q,aa,u)=>∃ (o:Hp) (p:Value),f 0=(int q)∧f 3=p∧f 4=(boo (decide (l<0)))∧f 5=(int u)∧Sl o p aa∧St j k w o []) (l,([]:List UInt8),0) ak (lfW an) ?_ ?_
  ·exact ⟨k,.slice none 0 0,rfl,rfl,rfl,rfl,Sl.nil,S⟩
  intro s f w hI a7 b ao
  obtain ⟨q,aa,u⟩:=s
  obtain ⟨o,p,v,h7,h8,ad,c,S⟩:=hI
  refine Ws<|Ws<|Wg<|M' v<|Lf<|M ?_
  refine WL.grp 3 [12,13] 14 (boo ((q !=0)||(u==0))) ?_ ?_
  ·rcases boolE (q !=0) with d | d
   ·refine Gn d<|Gn d<|Pt d ?_
    exact We ⟨(orT d),ag,rfl⟩
   refine Gy d<|M' ad<|Gy d<|Le<|Pf d ?_
   exact We ⟨(orF d),ag,rfl⟩
  intro us
  refine We ?_
  rcases condE b with ⟨ae,b⟩ | ⟨ae,b⟩
  ·refine CT ae<|Wk<|Ws<|Wb<|Ws<|Wg<|M' v<|B b fun a8 ap b=>?_
   refine WL.w (R.rem' rfl rfl ap)<|A<|We<|Ws<|Ws<|Wg<|M<|La<|We<|B b fun af t b=>WP.cut (fun f w=>∃ (ah:Hp),f 0=(int q)∧f 3=p∧f 4=(boo (decide (l<0)))∧f 5=(int u)∧f 6=(int af)∧Sl ah p aa∧St j k w ah []) ?_ ?_
   ·rcases condE t with ⟨ai,t⟩ | ⟨ai,t⟩
    ·refine CT ai<|Wg<|M<|Np<|A<|We ?_
     obtain rfl:=oi t
     exact ⟨o,v,h7,h8,ad,rfl,c,S⟩
    refine CF ai<|Wk ?_
    obtain rfl:=oi t
    exact ⟨o,v,h7,h8,ad,rfl,c,S⟩
   rintro f w ⟨ah,aq,ar,au,av,aw,c,S⟩
   refine Ws<|Wg<|M' aw<|Lg ?_
   refine WL.w (R.u8of64 rfl Tryz.underlying3 Tryz.underlying5)<|W.bslice (α:=UInt8) [(byt (toU8 (wr (48+af))))] ([toU8 (wr (48+af))]:List UInt8) S el206 rfl rfl rfl (by decide) (Go.Eng.encS ⟨rfl,rfl⟩ enc0) ?_
   intro a9 ba bb ax ay S
   have c:=c.up ax
   refine M' ar<|B b fun bc az b=>W.app (α:=UInt8) (i:=0) S el206 rfl rfl rfl ay c az ?_
   intro a0 bd a1 a2 a3 S
   have c:=c.up a2
   refine A<|We<|Wg<|M' aq<|B b fun be a4 b=>?_
   refine WL.w (R.quo' rfl rfl a4)<|A<|We<|Wg<|M' av<|Lg<|A<|We ?_
   obtain rfl:=oi b
   exact ⟨rfl,⟨a1,a0,rfl,rfl,au,rfl,a3,(S.pk [])⟩⟩
  refine CF ae<|Wx ?_
  obtain rfl:=oi b
  obtain rfl:=ao
  exact ⟨o,p,h7,h8,c,S⟩
 rintro f w ⟨x,z,al,a5,am,S⟩
 refine Ws<|Ws<|Wg<|M' a5<|We ?_
 rcases condE h with ⟨aj,h⟩ | ⟨aj,h⟩
 ·refine CT aj<|Ws<|Wg<|M' al ?_
  refine WL.w (R.strL S am rfl Tryz.underlying206 Tryz.underlying9 Tryz.underlying5)<|B h fun bf a6 h=>Je a6<|A<|We ?_
  exact WP.ret (Rs h S)
 refine CF aj<|Wk<|Ws<|Wg<|M' al ?_
 refine WL.w (R.strL S am rfl Tryz.underlying206 Tryz.underlying9 Tryz.underlying5)<|A<|We ?_
 exact WP.ret (Rs h S)
theorem zKS {d:World} {f:Hp} (hw:Holds d f) (hG:Tryz.Gl d) (c:UInt8) {r:Bool} (h:zKT c=some r) :
  Cb Tryz.prog 68 [(byt c)] d f r:=by
 refine CM 9 Tryz.func68 hw fun S=>?_
 refine Ws<|Wg<|A<|We<|Ws<|Wg<|M<|Md c 48<|M ?_
 refine WL.grp 3 [6,7] 8 (boo ((decide (48≤c))&&(decide (c≤57)))) ?_ ?_
 ·rcases boolE (decide (48≤c)) with b | b
  ·refine Gy b<|M<|Gy b<|Mb c 57<|Pt b ?_
   exact We ⟨(andT b),ag,rfl⟩
  refine Gn b<|Gn b<|Pf b ?_
  exact We ⟨(andF b),ag,rfl⟩
 intro us
 refine A<|We ?_
 exact WP.ret (Rb h S)
theorem zLc {i:World} {j:Hp} (hw:Holds i j) (hG:Tryz.Gl i) (b:UInt8) {r:Bool} (h:zLI b=some r) :
  Cb Tryz.prog 132 [(byt b)] i j r:=by
 refine CM 17 Tryz.func132 hw fun S=>?_
 refine Ws<|Wg<|A<|We<|Ws<|Wg<|M<|Me b 9<|M ?_
 refine WL.grp 7 [6,7,8,9,10,11] 12 (boo ((b==9)||((decide (32≤b))&&(decide (b≤126))))) ?_ ?_
 ·rcases boolE (b==9) with c | c
  ·refine Gn c<|Gn c<|Gn c<|WL.gund rfl rfl<|WL.gund rfl rfl<|Gn c<|Pt c ?_
   exact We ⟨(orT c),ag,rfl⟩
  refine Gy c<|M<|Gy c<|Md b 32<|Gy c<|M ?_
  refine WL.grp 3 [9,10] 11 (boo ((decide (32≤b))&&(decide (b≤126)))) ?_ ?_
  ·rcases boolE (decide (32≤b)) with d | d
   ·refine Gy d<|M<|Gy d<|Mb b 126<|Gy c<|Pt d ?_
    exact We ⟨(andT d),ag,rfl⟩
   refine Gn d<|Gn d<|Gy c<|Pf d ?_
   exact We ⟨(andF d),ag,rfl⟩
  intro us
  refine Pf c ?_
  exact We ⟨(orF c),ag,rfl⟩
 intro us
 refine M ?_
 refine WL.grp 3 [14,15] 16 (boo (((b==9)||((decide (32≤b))&&(decide (b≤126))))||(decide (128≤b)))) ?_ ?_
 ·rcases boolE ((b==9)||((decide (32≤b))&&(decide (b≤126)))) with f | f
  ·refine Gn f<|Gn f<|Pt f ?_
   exact We ⟨(orT f),ag,rfl⟩
  refine Gy f<|M<|Gy f<|Md b 128<|Pf f ?_
  exact We ⟨(orF f),ag,rfl⟩
 intro us
 refine A<|We ?_
 exact WP.ret (Rb h S)
theorem zKi {c:World} {d:Hp} (hw:Holds c d) (hG:Tryz.Gl c) (i:Str) {r:Bool} (h:zKm i=some r) :
  Cb Tryz.prog 69 [(str i)] c d r:=by
 refine CM 15 Tryz.func69 hw fun S=>?_
 refine Ws<|Wg<|A<|We<|Ws<|Ws<|Wg<|A<|We<|B h fun j x h=>WP.cut (fun f w=>match j with | .inl _=>∃ (t:Hp),St c d w t [] | .inr _=>False) ?_ ?_
 ·refine Wb ?_
  refine WP.loopM (zLL i) (fun s f w=>match s with | u=>∃ (k:Hp),f 0=(str i)∧f 3=(int u)∧St c d w k []) 0 j (lfW x) ?_ ?_
  ·exact ⟨d,rfl,rfl,S⟩
  intro u f w hI y6 b v
  obtain ⟨k,l,o,S⟩:=hI
  refine Ws<|Ws<|Wg<|M' o<|M' l<|Ns<|La<|We ?_
  rcases condE b with ⟨p,b⟩ | ⟨p,b⟩
  ·refine CT p<|Wk<|Ws<|Wb<|Ws<|Wg<|M' l<|M' o<|B b fun z aa b=>Ja aa<|B b fun ae ab b=>W.call S rfl (zLc S.holds (hG.post S.post) z ab) ?_
   rintro af ah ac ai S rfl
   refine No<|We ?_
   rcases condE b with ⟨q,b⟩ | ⟨q,b⟩
   ·refine CT q<|Ws<|Wg<|A<|We ?_
    obtain rfl:=oi b
    obtain rfl:=v
    exact WP.ret (Rb h S)
   refine CF q<|Wk<|Wg<|M' o<|Lg<|A<|We ?_
   obtain rfl:=oi b
   exact ⟨rfl,⟨ac,l,rfl,S⟩⟩
  refine CF p<|Wx ?_
  obtain rfl:=oi b
  obtain rfl:=v
  exact ⟨k,S⟩
 intro f w hM
 rcases j with _ | e
 ·obtain ⟨t,S⟩:=hM
  refine Ws<|Wg<|A<|We ?_
  exact WP.ret (Rb h S)
 exact hM.elim
theorem zK2 {t:World} {q:Hp} (hw:Holds t q) (hG:Tryz.Gl t) (u:Str) {r:(Int×Int)} (h:zKx u=some r) :
  Con Tryz.prog 70 [(str u)] t q (fun H' v=>v=(.tuple ⟨[(int r.1),(int r.2)]⟩)):=by
 refine CM 41 Tryz.func70 hw fun S=>?_
 refine Ws<|Wg<|A<|A<|We<|Ws<|Ws<|Wg<|M<|Ns<|Lf<|M<|B h fun b4 l h=>WL.grp 4 [8,9,10] 11 (boo b4) ?_ ?_
 ·rcases boolE ((u.length:Int) !=8) with d | d
  ·replace l:=condT l d
   refine Gn d<|Gn d<|Gn d<|Pt d ?_
   exact We ⟨(ob l),ag,rfl⟩
  replace l:=condF l d
  refine Gy d<|M<|Gy d<|B l fun s3 ah l=>Jd ah<|Gy d<|Nb<|Pf d ?_
  exact We ⟨(ob l),ag,rfl⟩
 intro us
 refine M<|B h fun ab j h=>WL.grpw 5 [13,14,15,16] 17 (boo ab) (fun w=>∃ H':Hp,q.le H'∧St t q w H' []) ?_ ?_
 ·rcases boolE b4 with b | b
  ·replace j:=condT j b
   refine Gn b<|Gn b<|Gn b<|Gn b<|Pt b ?_
   exact We ⟨(ob j),ag,⟨q,lr,S⟩⟩
  replace j:=condF j b
  refine Gy b<|M<|Gy b<|B j fun c7 aj j=>Ja aj<|Gy b<|B j fun r8 ak j=>W.call S rfl (zKS S.holds (hG.post S.post) c7 ak) ?_
  rintro v9 a5 al am S rfl
  refine Gy b<|No<|Pf b ?_
  exact We ⟨(ob j),ag,⟨al,am,S⟩⟩
 intro us a6 ⟨ac,a7,S⟩
 refine M<|B h fun ad o h=>WL.grp 4 [19,20,21] 22 (boo ad) ?_ ?_
 ·rcases boolE ab with f | f
  ·replace o:=condT o f
   refine Gn f<|Gn f<|Gn f<|Pt f ?_
   exact We ⟨(ob o),ag,rfl⟩
  replace o:=condF o f
  refine Gy f<|M<|Gy f<|B o fun an ao o=>Ja ao<|Gy f<|Mf an 46<|Pf f ?_
  exact We ⟨(ob o),ag,rfl⟩
 intro us
 refine M<|B h fun ap k h=>WL.grpw 5 [24,25,26,27] 28 (boo ap) (fun w=>∃ H':Hp,ac.le H'∧St t q w H' []) ?_ ?_
 ·rcases boolE ad with c | c
  ·replace k:=condT k c
   refine Gn c<|Gn c<|Gn c<|Gn c<|Pt c ?_
   exact We ⟨(ob k),ag,⟨ac,lr,S⟩⟩
  replace k:=condF k c
  refine Gy c<|M<|Gy c<|B k fun aq ar k=>Ja ar<|Gy c<|B k fun a8 au k=>W.call S rfl (zKS S.holds (hG.post S.post) aq au) ?_
  rintro a9 ba av aw S rfl
  refine Gy c<|No<|Pf c ?_
  exact We ⟨(ob k),ag,⟨av,aw,S⟩⟩
 intro us bb ⟨bc,bd,S⟩
 refine We ?_
 rcases condE h with ⟨x,h⟩ | ⟨x,h⟩
 ·refine CT x<|Ws<|Wg<|A<|A<|We ?_
  obtain rfl:=oi h
  refine WP.ret (Out.two rfl S rfl rfl ?_)
  exact rfl
 refine CF x<|Wk<|Ws<|Ws<|Wg<|M<|B h fun ae ax h=>Ja ax<|Mf ae 49<|M<|B h fun ay p h=>WL.grp 4 [33,34,35] 36 (boo ay) ?_ ?_
 ·rcases boolE (ae !=49) with i | i
  ·replace p:=condT p i
   refine Gn i<|Gn i<|Gn i<|Pt i ?_
   exact We ⟨(ob p),ag,rfl⟩
  replace p:=condF p i
  refine Gy i<|M<|Gy i<|B p fun az a0 p=>Ja a0<|Gy i<|Mc az 49<|Pf i ?_
  exact We ⟨(ob p),ag,rfl⟩
 intro us
 refine We ?_
 rcases condE h with ⟨z,h⟩ | ⟨z,h⟩
 ·refine CT z<|Ws<|Wg<|A<|A<|We ?_
  obtain rfl:=oi h
  refine WP.ret (Out.two rfl S rfl rfl ?_)
  exact rfl
 refine CF z<|Wk<|Ws<|Wg<|M<|B h fun af a1 h=>Ja a1<|Mh af 48 ?_
 refine WL.w (R.i64of8 (a:=af - 48) rfl Tryz.underlying5 Tryz.underlying3)<|A<|A<|We ?_
 obtain rfl:=oi h
 refine WP.ret (Out.two rfl S rfl rfl ?_)
 exact rfl
theorem zK6 {d:World} {i:Hp} (hw:Holds d i) (hG:Tryz.Gl d) (j:Str) {r:(Int×Bool)} (h:zK4 j=some r) :
  Con Tryz.prog 71 [(str j)] d i (fun H' v=>v=(.tuple ⟨[(int r.1),(boo r.2)]⟩)):=by
 refine CM 30 Tryz.func71 hw fun S=>?_
 refine Ws<|Wg<|A<|A<|We<|Ws<|Wg<|A<|We<|Ws<|Ws<|Wg ?_
 refine A<|We<|B h fun l af h=>WP.cut (fun f w=>match l with | .inl u=>∃ (x:Hp),f 0=(str j)∧f 4=(int u)∧St d i w x [] | .inr _=>False) ?_ ?_
 ·refine Wb ?_
  refine WP.loopM (zK7 j) (fun s f w=>match s with | (z,aa)=>∃ (o:Hp),f 0=(str j)∧f 4=(int z)∧f 5=(int aa)∧St d i w o []) (0,0) l (lfW af) ?_ ?_
  ·exact ⟨i,rfl,rfl,rfl,S⟩
  intro s f w hI an b ab
  obtain ⟨z,aa⟩:=s
  obtain ⟨o,c,h4,k,S⟩:=hI
  refine Ws<|Ws<|Wg<|M' k<|M' c<|Ns<|La<|We ?_
  rcases condE b with ⟨p,b⟩ | ⟨p,b⟩
  ·refine CT p<|Wk<|Ws<|Wb<|Ws<|Ws<|Wg<|M' c<|M' k<|B b fun ah ai b=>Ja ai<|B b fun ao aj b=>W.call S rfl (zKS S.holds (hG.post S.post) ah aj) ?_
   rintro ap aq ad ar S rfl
   refine No<|We ?_
   rcases condE b with ⟨q,b⟩ | ⟨q,b⟩
   ·refine CT q<|Ws<|Wg<|A<|A<|We ?_
    obtain rfl:=oi b
    obtain rfl:=ab
    obtain rfl:=oi h
    refine WP.ret (Out.two rfl S rfl rfl ?_)
    exact rfl
   refine CF q<|Wk<|Ws<|Wg<|M' h4<|Li<|M' c<|M' k<|B b fun ae ak b=>Ja ak<|Mh ae 48 ?_
   refine WL.w (R.i64of8 (a:=ae - 48) rfl Tryz.underlying5 Tryz.underlying3)<|Lg<|A<|We<|Ws<|Wg<|M<|Lc<|We ?_
   rcases condE b with ⟨t,b⟩ | ⟨t,b⟩
   ·refine CT t<|Wg<|A<|We<|Wg<|M' k<|Lg<|A<|We ?_
    obtain rfl:=oi b
    exact ⟨rfl,⟨ad,c,rfl,rfl,S⟩⟩
   refine CF t<|Wk<|Wg<|M' k<|Lg<|A<|We ?_
   obtain rfl:=oi b
   exact ⟨rfl,⟨ad,c,rfl,rfl,S⟩⟩
  refine CF p<|Wx ?_
  obtain rfl:=oi b
  obtain rfl:=ab
  exact ⟨o,c,h4,S⟩
 intro f w hM
 rcases l with u | e
 ·obtain ⟨x,h8,am,S⟩:=hM
  refine Ws<|Wg<|M' am<|M' h8<|Nb<|A<|A<|We ?_
  obtain rfl:=oi h
  refine WP.ret (Out.two rfl S rfl rfl ?_)
  exact rfl
 exact hM.elim
theorem zKR {w0:World} {z:Hp} (hw:Holds w0 z) (hG:Tryz.Gl w0) (ab:Str) {r:(Int×Int×Str×Int)} (h:zKP ab=some r) :
  Con Tryz.prog 32 [(str ab)] w0 z (fun H' v=>v=(.tuple ⟨[(int r.1),(int r.2.1),(str r.2.2.1),(int r.2.2.2)]⟩)):=by
 refine CM 73 Tryz.func32 hw fun S=>?_
 refine Ws<|Wg<|A<|A<|A<|A<|We<|Ws<|Ws<|Wg<|M<|Ns ?_
 refine Lc<|We ?_
 rcases condE h with ⟨ac,h⟩ | ⟨ac,h⟩
 ·refine CT ac<|Ws<|Wg<|A<|A<|A<|A<|We ?_
  obtain rfl:=oi h
  refine WP.ret (Out.four rfl S rfl rfl rfl rfl ?_)
  exact rfl
 refine CF ac<|Wk<|Ws<|Ws<|Wg<|M<|Ns<|La<|M<|B h fun b5 q h=>WL.grp 4 [17,18,19] 20 (boo b5) ?_ ?_
 ·rcases boolE (decide ((ab.length:Int)<13)) with f | f
  ·replace q:=condT q f
   refine Gn f<|Gn f<|Gn f<|Pt f ?_
   exact We ⟨(ob q),ag,rfl⟩
  replace q:=condF q f
  refine Gy f<|M<|Gy f<|B q fun c4 ap q=>Ja ap<|Gy f<|Mf c4 32<|Pf f ?_
  exact We ⟨(ob q),ag,rfl⟩
 intro us
 refine M<|B h fun b9 t h=>WL.grp 4 [22,23,24] 25 (boo b9) ?_ ?_
 ·rcases boolE b5 with i | i
  ·replace t:=condT t i
   refine Gn i<|Gn i<|Gn i<|Pt i ?_
   exact We ⟨(ob t),ag,rfl⟩
  replace t:=condF t i
  refine Gy i<|M<|Gy i<|B t fun c8 ar t=>Ja ar<|Gy i<|Ma c8 49<|Pf i ?_
  exact We ⟨(ob t),ag,rfl⟩
 intro us
 refine M<|B h fun ai u h=>WL.grp 4 [27,28,29] 30 (boo ai) ?_ ?_
 ·rcases boolE b9 with j | j
  ·replace u:=condT u j
   refine Gn j<|Gn j<|Gn j<|Pt j ?_
   exact We ⟨(ob u),ag,rfl⟩
  replace u:=condF u j
  refine Gy j<|M<|Gy j<|B u fun au av u=>Ja av<|Gy j<|Mc au 53<|Pf j ?_
  exact We ⟨(ob u),ag,rfl⟩
 intro us
 refine M<|B h fun aj l h=>WL.grpw 5 [32,33,34,35] 36 (boo aj) (fun w=>∃ H':Hp,z.le H'∧St w0 z w H' []) ?_ ?_
 ·rcases boolE ai with b | b
  ·replace l:=condT l b
   refine Gn b<|Gn b<|Gn b<|Gn b<|Pt b ?_
   exact We ⟨(ob l),ag,⟨z,lr,S⟩⟩
  replace l:=condF l b
  refine Gy b<|M<|Gy b<|B l fun aw ax l=>Ja ax<|Gy b<|B l fun bn ay l=>W.call S rfl (zKS S.holds (hG.post S.post) aw ay) ?_
  rintro bo bp az a0 S rfl
  refine Gy b<|No<|Pf b ?_
  exact We ⟨(ob l),ag,⟨az,a0,S⟩⟩
 intro us bq ⟨ak,br,S⟩
 refine M<|B h fun al o h=>WL.grpw 5 [38,39,40,41] 42 (boo al) (fun w=>∃ H':Hp,ak.le H'∧St w0 z w H' []) ?_ ?_
 ·rcases boolE aj with c | c
  ·replace o:=condT o c
   refine Gn c<|Gn c<|Gn c<|Gn c<|Pt c ?_
   exact We ⟨(ob o),ag,⟨ak,lr,S⟩⟩
  replace o:=condF o c
  refine Gy c<|M<|Gy c<|B o fun a1 a2 o=>Ja a2<|Gy c<|B o fun bs a3 o=>W.call S rfl (zKS S.holds (hG.post S.post) a1 a3) ?_
  rintro bt bu a4 a5 S rfl
  refine Gy c<|No<|Pf c ?_
  exact We ⟨(ob o),ag,⟨a4,a5,S⟩⟩
 intro us bv ⟨am,bw,S⟩
 refine M<|B h fun an x h=>WL.grp 4 [44,45,46] 47 (boo an) ?_ ?_
 ·rcases boolE al with k | k
  ·replace x:=condT x k
   refine Gn k<|Gn k<|Gn k<|Pt k ?_
   exact We ⟨(ob x),ag,rfl⟩
  replace x:=condF x k
  refine Gy k<|M<|Gy k<|B x fun a6 a7 x=>Ja a7<|Gy k<|Mf a6 32<|Pf k ?_
  exact We ⟨(ob x),ag,rfl⟩
 intro us
 refine M<|B h fun a8 p h=>WL.grpw 5 [49,50,51,52] 53 (boo a8) (fun w=>∃ H':Hp,am.le H'∧St w0 z w H' []) ?_ ?_
 ·rcases boolE an with d | d
  ·replace p:=condT p d
   refine Gn d<|Gn d<|Gn d<|Gn d<|Pt d ?_
   exact We ⟨(ob p),ag,⟨am,lr,S⟩⟩
  replace p:=condF p d
  refine Gy d<|M<|Gy d<|B p fun a9 ba p=>Jc ba<|Gy d<|B p fun bx bb p=>W.call S rfl (zKi S.holds (hG.post S.post) a9 bb) ?_
  rintro bz b0 bc bd S rfl
  refine Gy d<|No<|Pf d ?_
  exact We ⟨(ob p),ag,⟨bc,bd,S⟩⟩
 intro us b1 ⟨b2,b3,S⟩
 refine We ?_
 rcases condE h with ⟨ad,h⟩ | ⟨ad,h⟩
 ·refine CT ad<|Ws<|Wg<|A<|A<|A<|A<|We ?_
  obtain rfl:=oi h
  refine WP.ret (Out.four rfl S rfl rfl rfl rfl ?_)
  exact rfl
 refine CF ad<|Wk<|Ws<|Wg<|M<|B h fun be bf h=>Jd bf<|B h fun b4 bg h=>W.call S rfl (zK2 S.holds (hG.post S.post) be bg) ?_
 rintro b6 b7 b8 ca S rfl
 refine M ?_
 refine Ex ?_
 refine Ex<|A<|A<|We<|Ws<|Ws<|Wg<|M<|Lf<|We ?_
 rcases condE h with ⟨ae,h⟩ | ⟨ae,h⟩
 ·refine CT ae<|Ws<|Wg<|M<|A<|A<|A<|A<|We ?_
  obtain rfl:=oi h
  refine WP.ret (Out.four rfl S rfl rfl rfl rfl ?_)
  exact rfl
 refine CF ae<|Wk<|Ws<|Wg<|M<|B h fun bh bi h=>Jb bi<|B h fun cb bj h=>W.call S rfl (zK6 S.holds (hG.post S.post) bh bj) ?_
 rintro cc cd ce cf S rfl
 refine M ?_
 refine Ex ?_
 refine Ex<|A<|A<|We<|Ws<|WP.quiet S kr kr<|QM<|QM<|QM<|B h fun cg bk h=>QJc bk<|QA<|QA<|QA<|QA<|WQ.nil ?_
 intro ch ci cj S
 obtain rfl:=oi h
 refine WP.ret (Out.four rfl S rfl rfl rfl rfl ?_)
 exact rfl
theorem zKs {k:World} {q:Hp} (hw:Holds k q) (hG:Tryz.Gl k) (b:Int) (c:Int) (l:Str) {r:Str} (h:zKa b c l=some r) :
  Cs Tryz.prog 30 [(int b),(int c),(str l)] k q r:=by
 refine CM 51 Tryz.func30 hw fun S=>?_
 refine Ws<|Wg<|A<|We<|Ws<|Ws<|Wg<|M<|La<|M ?_
 refine WL.grp 3 [15,16] 17 (boo ((decide (b<0))||(decide (1<b)))) ?_ ?_
 ·rcases boolE (decide (b<0)) with f | f
  ·refine Gn f<|Gn f<|Pt f ?_
   exact We ⟨(orT f),ag,rfl⟩
  refine Gy f<|M<|Gy f<|Lc<|Pf f ?_
  exact We ⟨(orF f),ag,rfl⟩
 intro us
 refine M ?_
 refine WL.grp 3 [19,20] 21 (boo (((decide (b<0))||(decide (1<b)))||(decide (c<100)))) ?_ ?_
 ·rcases boolE ((decide (b<0))||(decide (1<b))) with i | i
  ·refine Gn i<|Gn i<|Pt i ?_
   exact We ⟨(orT i),ag,rfl⟩
  refine Gy i<|M<|Gy i<|La<|Pf i ?_
  exact We ⟨(orF i),ag,rfl⟩
 intro us
 refine M ?_
 refine WL.grp 3 [23,24] 25 (boo ((((decide (b<0))||(decide (1<b)))||(decide (c<100)))||(decide (599<c)))) ?_ ?_
 ·rcases boolE (((decide (b<0))||(decide (1<b)))||(decide (c<100))) with j | j
  ·refine Gn j<|Gn j<|Pt j ?_
   exact We ⟨(orT j),ag,rfl⟩
  refine Gy j<|M<|Gy j<|Lc<|Pf j ?_
  exact We ⟨(orF j),ag,rfl⟩
 intro us
 refine M ?_
 refine WL.grp 4 [27,28,29] 30 (boo (((((decide (b<0))||(decide (1<b)))||(decide (c<100)))||(decide (599<c)))||(decide (2000<(l.length:Int))))) ?_ ?_
 ·rcases boolE ((((decide (b<0))||(decide (1<b)))||(decide (c<100)))||(decide (599<c))) with d | d
  ·refine Gn d<|Gn d<|Gn d<|Pt d ?_
   exact We ⟨(orT d),ag,rfl⟩
  refine Gy d<|M<|Gy d<|Ns<|Gy d<|Lc<|Pf d ?_
  exact We ⟨(orF d),ag,rfl⟩
 intro us
 refine We ?_
 rcases condE h with ⟨o,h⟩ | ⟨o,h⟩
 ·refine CT o<|Ws<|Wg<|A<|We ?_
  exact WP.ret (Rs h S)
 refine CF o<|Wk<|Ws<|Wg<|M<|B h fun ae t h=>W.call S rfl (zKe S.holds (hG.post S.post) b t) ?_
 rintro af ah ai aj S rfl
 refine B h fun ak u h=>Je u<|B h fun al v h=>Je v<|M<|B h fun am x h=>W.call S rfl (zKe S.holds (hG.post S.post) c x) ?_
 rintro an ao ap aq S rfl
 refine B h fun ar z h=>Je z<|B h fun au aa h=>Je aa<|M<|B h fun ab ac h=>Je ac<|A<|We<|Ws<|Ws<|Wg<|M<|B h fun av ad h=>W.call S rfl (zKR S.holds (hG.post S.post) ab ad) ?_
 rintro aw ax ay az S rfl
 refine M ?_
 refine Ex ?_
 refine Ex ?_
 refine Ex ?_
 refine Ex<|A<|A<|A<|A<|We<|Ws<|Wg ?_
 refine M<|Lf<|We ?_
 rcases condE h with ⟨p,h⟩ | ⟨p,h⟩
 ·refine CT p<|Ws<|Wg<|A<|We ?_
  exact WP.ret (Rs h S)
 refine CF p<|Wk<|Ws<|Wg<|M<|A<|We ?_
 exact WP.ret (Rs h S)
theorem zLG {q:World} {t:Hp} (hw:Holds q t) (hG:Tryz.Gl q) (d:Str) {r:Str} (h:zLB d=some r) :
  Cs Tryz.prog 133 [(str d)] q t r:=by
 refine CM 33 Tryz.func133 hw fun S=>?_
 refine Ws<|Wg<|A<|We<|Ws<|Wg<|M<|W.bytes (s:=d) S rfl Tryz.underlying9 Tryz.underlying206 Tryz.underlying5 ?_
 intro x c2 w3 ax S
 refine A<|We<|Ws<|Ws<|Wg<|A<|We<|B h fun u al h=>WP.cut (fun f w=>∃ (ad:Hp),f 3=(.slice (some ⟨x,0,none⟩) d.length c2)∧u.length=d.length∧St q t w ad [.box x 5 (u.map byt)]) ?_ ?_
 ·refine Wb ?_
  refine WP.loopM (zLJ d) (fun s f w=>match s with | (z,k)=>∃ (v:Hp),f 3=(.slice (some ⟨x,0,none⟩) d.length c2)∧f 4=(int z)∧k.length=d.length∧St q t w v [.box x 5 (k.map byt)]) (0,d) u (lfW al) ?_ ?_
  ·exact ⟨t,rfl,rfl,rfl,S⟩
  intro s f w hI ay b am
  obtain ⟨z,k⟩:=s
  obtain ⟨v,l,p,o,S⟩:=hI
  refine Ws<|Ws<|Wg<|M' p<|M' l<|Nv<|La<|We ?_
  rcases condE b with ⟨aa,b⟩ | ⟨aa,b⟩
  ·refine CT aa<|Wk<|Ws<|Wb<|Ws<|Wg<|M' l<|M' p<|B b fun az ae b=>?_
   have a0:=(zDP ae).2
   refine WL.w (R.idxB rfl rfl el206 (by have:=(zDP ae).2; have hl:k.length=d.length:=o; omega))<|B b fun af an b=>?_
   refine WL.w (R.loadB (i:=0) S rfl rfl lay5 (zDP an).1)<|Md af 65<|M<|B b fun ao j b=>WL.grp 6 [19,20,21,22,23] 24 (boo ao) ?_ ?_
   ·rcases boolE (decide (65≤af)) with c | c
    ·replace j:=condT j c
     refine Gy c<|M' l<|Gy c<|M' p<|Gy c<|B j fun a1 ah j=>?_
     have a2:=(zDP ah).2
     refine WL.w (R.idxB rfl rfl el206 (by have:=(zDP ah).2; have hl:k.length=d.length:=o; omega))<|Gy c<|B j fun ap aq j=>?_
     refine WL.w (R.loadB (i:=0) S rfl rfl lay5 (zDP aq).1)<|Gy c<|Mb ap 90<|Pt c ?_
     exact We ⟨(ob j),ag,rfl⟩
    replace j:=condF j c
    refine Gn c<|Gn c<|Gn c<|Gn c<|Gn c<|Pf c ?_
    exact We ⟨(ob j),ag,rfl⟩
   intro us
   refine We ?_
   rcases condE b with ⟨ab,b⟩ | ⟨ab,b⟩
   ·refine CT ab<|Wg<|M' l<|M' p<|B b fun a3 ai b=>?_
    have a4:=(zDP ai).2
    refine WL.w (R.idxB rfl rfl el206 (by have:=(zDP ai).2; have hl:k.length=d.length:=o; omega))<|B b fun aj ar b=>?_
    refine WL.w (R.loadB (i:=0) S rfl rfl lay5 (zDP ar).1)<|Mg aj 32<|B b fun a5 ak b=>?_
    have a6:=(zDP ak).2
    refine WL.w (R.idxB rfl rfl el206 (by have:=(zDP ak).2; have hl:k.length=d.length:=o; omega)) ?_
    refine W.store (i:=0) ((k.set z.toNat (aj+32)).map byt) S rfl rfl rfl lay5 rfl rfl (by rw [List.length_map]; omega) (zID _ _ _ (by omega)) ?_
    intro a7 S
    refine We<|Wg<|M' p<|Lg<|A<|We ?_
    obtain rfl:=oi b
    exact ⟨rfl,⟨v,l,rfl,(List.length_set.trans o),S⟩⟩
   refine CF ab<|Wk<|Wg<|M' p<|Lg<|A<|We ?_
   obtain rfl:=oi b
   exact ⟨rfl,⟨v,l,rfl,o,S⟩⟩
  refine CF aa<|Wx ?_
  obtain rfl:=oi b
  obtain rfl:=am
  exact ⟨v,l,o,S⟩
 rintro f w ⟨ad,au,av,S⟩
 refine Ws<|Wg<|M' au ?_
 refine WL.w (R.strB (i:=0) (s:=u) S (by rw [show u.length=d.length from av]; exact rfl) rfl Tryz.underlying206 Tryz.underlying9 Tryz.underlying5)<|A<|We ?_
 exact WP.ret (Rs h S)
theorem zKy {f:World} {d:Hp} (hw:Holds f d) (hG:Tryz.Gl f) (i:Str) (j:Str) {r:Bool} (h:zK0 i j=some r) :
  Cb Tryz.prog 73 [(str i),(str j)] f d r:=by
 refine CM 17 Tryz.func73 hw fun S=>?_
 refine Ws<|Wg<|A<|We<|Ws<|Wg<|M<|Ns<|M<|Ns<|Le<|M<|B h fun k c h=>WL.grpw 6 [11,12,13,14,15] 16 (boo k) (fun w=>∃ H':Hp,d.le H'∧St f d w H' []) ?_ ?_
 ·rcases boolE ((i.length:Int)==(j.length:Int)) with b | b
  ·replace c:=condT c b
   refine Gy b<|M<|Gy b<|B c fun u l c=>W.call S rfl (zLG S.holds (hG.post S.post) i l) ?_
   rintro v x z o S rfl
   refine Gy b<|M<|Gy b<|B c fun r8 p c=>W.call S rfl (zLG S.holds (hG.post S.post) j p) ?_
   rintro v9 ac q t S rfl
   refine Gy b<|Na<|Pt b ?_
   exact We ⟨(ob c),ag,⟨q,(o.trans t),S⟩⟩
  replace c:=condF c b
  refine Gn b<|Gn b<|Gn b<|Gn b<|Gn b<|Pf b ?_
  exact We ⟨(ob c),ag,⟨d,lr,S⟩⟩
 intro us ad ⟨ae,af,S⟩
 refine A<|We ?_
 exact WP.ret (Rb h S)
theorem zLA {l:World} {j:Hp} (hw:Holds l j) (hG:Tryz.Gl l) (x:(List GField)) (o:Str) {z:Value} (c:Sl j z x) {r:(List GField)} (h:zK5 x o=some r) :
  Con Tryz.prog 74 [z,(str o)] l j (fun H' v=>Sl H' v r):=by
 refine CM 29 Tryz.func74 hw fun S=>?_
 refine Ws<|Wg<|A<|We<|Ws<|Wg<|A<|We<|Ws<|Ws<|Wg<|A ?_
 refine We ?_
 have S:=S.addNil 68 2
 refine B h fun ab ak h=>WP.cut (fun f w=>∃ (ac:Hp) (aa:Value),f 5=aa∧Sl ac aa ab∧St l j w ac [.row aa 68 2 ab.length]) ?_ ?_
 ·refine Wb ?_
  refine WP.loopM (zK8 x o) (fun s f w=>match s with | (ad,aj)=>∃ (p:Hp) (k:Value),f 0=z∧f 1=(str o)∧f 5=k∧f 6=(int aj)∧Sl p z x∧Sl p k ad∧St l j w p [.row k 68 2 ad.length]) (([]:List GField),0) ab (lfW ak) ?_ ?_
  ·exact ⟨j,.slice none 0 0,rfl,rfl,rfl,rfl,c,Sl.nil,S⟩
  intro s f w hI a6 b al
  obtain ⟨ad,aj⟩:=s
  obtain ⟨p,k,q,h3,h7,t,c,d,S⟩:=hI
  refine Ws<|Ws<|Wg<|M' t<|M' q<|Nq c<|La<|We ?_
  rcases condE b with ⟨ah,b⟩ | ⟨ah,b⟩
  ·refine CT ah<|Wk<|Ws<|Wb<|Ws<|Wg<|M' q<|M' t<|B b fun am an b=>W.idx (α:=GField) c rfl rfl el22 an ?_
   rintro a7 _ ao rfl
   refine Fc ?_
   have ap:=At.add ao 0 (by simp)
   refine Lq S ap<|M' h3<|B b fun a8 aq b=>W.call S rfl (zKy S.holds (hG.post S.post) am.fName o aq) ?_
   rintro a9 ba ar au S rfl
   have ⟨c,d⟩:=U2 au c d
   refine No<|We ?_
   rcases condE b with ⟨ai,b⟩ | ⟨ai,b⟩
   ·refine CT ai<|Wg<|M' h7<|M' q<|M' t<|B b fun u av b=>W.idx (α:=GField) c rfl rfl el22 av ?_
    rintro bb _ aw rfl
    refine WL.w (R.loadHN (vs:=[(str u.fName),(str u.fValue)]) S rfl aw lay68 rfl rfl)<|W.bslice (α:=GField) [(agg [(str u.fName),(str u.fValue)])] ([u]:List GField) S el22 rfl rfl rfl (by decide) (Go.Eng.encS ⟨rfl,rfl⟩ enc0) ?_
    intro bc bd be ax ay S
    have ⟨c,d⟩:=U2 ax c d
    refine B b fun bf az b=>W.app (α:=GField) (i:=1) S el22 rfl rfl rfl d ay az ?_
    intro a0 bg a1 a2 a3 S
    have ⟨c,d⟩:=U2 a2 c d
    refine A<|We<|Wg<|M' t<|Lg<|A<|We ?_
    obtain rfl:=oi b
    exact ⟨rfl,⟨a1,a0,q,h3,rfl,rfl,c,a3,(S.pk [1])⟩⟩
   refine CF ai<|Wk<|Wg<|M' t<|Lg<|A<|We ?_
   obtain rfl:=oi b
   exact ⟨rfl,⟨ar,k,q,h3,h7,rfl,c,d,S⟩⟩
  refine CF ah<|Wx ?_
  obtain rfl:=oi b
  obtain rfl:=al
  exact ⟨p,k,h7,d,S⟩
 rintro f w ⟨ac,aa,a4,a5,S⟩
 refine Ws<|Wg<|M' a4<|A<|We ?_
 exact WP.ret (Rl h S a5)
theorem zKw {b:World} {c:Hp} (hw:Holds b c) (hG:Tryz.Gl b) (d:(List GField)) {f:Value} (i:Sl c f d) {r:(List GField)} (h:zKn d=some r) :
  Con Tryz.prog 34 [f] b c (fun H' v=>Sl H' v r):=by
 refine CM 6 Tryz.func34 hw fun S=>?_
 refine Ws<|Wg<|A<|We<|Ws<|Wg<|M<|B h fun j k h=>W.call S rfl (zLA S.holds (hG.post S.post) d [67,111,110,116,101,110,116,45,76,101,110,103,116,104] i k) ?_
 rintro q t u x S l
 refine B h fun z o h=>W.call S rfl (zLA S.holds (hG.post S.post) j [84,114,97,110,115,102,101,114,45,69,110,99,111,100,105,110,103] l o) ?_
 rintro v8 w9 ac ad S p
 refine A<|We ?_
 exact WP.ret (Rl h S p)
theorem zLH {d:World} {f:Hp} (hw:Holds d f) (hG:Tryz.Gl d) (c:UInt8) {r:Bool} (h:zLD c=some r) :
  Cb Tryz.prog 200 [(byt c)] d f r:=by
 refine CM 9 Tryz.func200 hw fun S=>?_
 refine Ws<|Wg<|A<|We<|Ws<|Wg<|M<|Me c 32<|M ?_
 refine WL.grp 3 [6,7] 8 (boo ((c==32)||(c==9))) ?_ ?_
 ·rcases boolE (c==32) with b | b
  ·refine Gn b<|Gn b<|Pt b ?_
   exact We ⟨(orT b),ag,rfl⟩
  refine Gy b<|M<|Gy b<|Me c 9<|Pf b ?_
  exact We ⟨(orF b),ag,rfl⟩
 intro us
 refine A<|We ?_
 exact WP.ret (Rb h S)
end Go.Proofs
