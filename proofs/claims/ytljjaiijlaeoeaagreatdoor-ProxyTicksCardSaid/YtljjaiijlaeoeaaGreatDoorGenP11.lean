/- A part of the proof of laws of the seat: written by program over the translation. -/
import Derived.Test.YtljjaiijlaeoeaaGreatDoorEng38
import Derived.Test.YtljjaiijlaeoeaaGreatDoorEng36
import Derived.Test.YtljjaiijlaeoeaaGreatDoorGenP10
namespace Go.Proofs
set_option maxHeartbeats 4000000
set_option maxRecDepth 10000
open Go.Eng Go.Eng.Pure
set_option linter.unusedVariables false
theorem zJX {o:World} {p:Hp} (hw:Holds o p) (hG:Tryz.Gl o) (q:(List GField)) (ab:Str) (k:Str) {u:Value} (c:Sl (α:=GField) p u q) {r:(List GField)} (h:zEe q ab k=some r) :
  Con Tryz.prog 105 [u,(str ab),(str k)] o p (fun H' v=>Sl (α:=GField) H' v r):=by
 refine Con.mk (N:=49) Tryz.func105 rfl rfl kr rfl ?_
 have S:=St.start hw
 refine Ws<|Wg<|A<|We<|Ws<|Wg<|M<|B h fun r1 a3 h=>W.call S rfl (zNV S.holds (hG.post S.post) ab a3) ?_
 rintro v2 w3 H4 a4 S ⟨kr1,cr1,rfl,Fr1⟩
 have c:=Sl.mono c a4
 refine A<|A<|We<|Ws<|Wg<|A<|We<|Ws<|Ws<|Wg<|M<|Nq c ?_
 refine M<|We ?_
 have S:=S.addNil 68 2
 refine B h fun ac a5 h=>WP.cut (fun f w=>match ac with | (az,ad)=>∃ (ae:Hp) (x:Value),f 8=(boo az)∧f 9=x∧Sl (α:=GField) ae x ad∧St o p w ae [.row x 68 2 ad.length]) ?_ ?_
 ·refine Wb ?_
  refine WP.loopM (zC8 q k r1) (fun s f w=>match s with | (a0,af,a1)=>∃ (l:Hp) (t:Value),f 2=(str k)∧f 7=(.func (.func kr1) #[] cr1.toArray)∧f 8=(boo a0)∧f 9=t∧f 14=u∧f 15=(int (q.length:Int))∧f 16=(int a1)∧Sl (α:=GField) l t af∧Sl (α:=GField) l u q∧Hp.le H4 l∧St o p w l [.row t 68 2 af.length]) (false,([]:List GField),0) ac (lfW a5) ?_ ?_
  ·exact ⟨H4,.slice none 0 0,rfl,rfl,rfl,rfl,rfl,rfl,rfl,Sl.nil,c,(Hp.le.refl _),S⟩
  intro s f w hI br b a6
  obtain ⟨a0,af,a1⟩:=s
  obtain ⟨l,t,h7,h8,aj,ak,al,am,z,j,c,an,S⟩:=hI
  refine Ws<|Wg<|La' z am<|We<|Ws ?_
  rcases condE b with ⟨ao,b⟩ | ⟨ao,b⟩
  ·refine CT ao<|Wk<|Ws<|Wb<|Ws<|Wg<|B b fun d a7 b=>W.idx (α:=GField) c al z el22 a7 ?_
   rintro bs _ a8 rfl
   refine WL.w (R.loadHN (vs:=[(str d.fName),(str d.fValue)]) S rfl a8 lay68 rfl rfl) ?_
   refine W.alloc [(str []),(str [])] S zer68 ?_
   intro bt bu S
   refine W.store (i:=0) [(str d.fName),(str d.fValue)] S rfl rfl rfl lay68 rfl rfl (Nat.le_of_ble_eq_true rfl) rfl ?_
   intro bv S
   refine We<|Wb<|Ws<|Wg<|M' h8 ?_
   refine WL.w (R.loadBN (i:=0) (vs:=[(str d.fName),(str d.fValue)]) S rfl rfl lay68 rfl rfl)<|B b fun bw a9 b=>W.callv S rfl rfl (Fr1 an S.holds (hG.post S.post) d _ a9) ?_
   rintro bx bz b0 aa S rfl
   have j:=Sl.mono j aa
   have c:=Sl.mono c aa
   refine No<|A<|We ?_
   rcases condE b with ⟨ap,b⟩ | ⟨ap,b⟩
   ·refine CT ap<|Wg<|M' ak ?_
    refine WL.w (R.loadBN (i:=0) (vs:=[(str d.fName),(str d.fValue)]) S rfl rfl lay68 rfl rfl)<|W.bslice (α:=GField) [(agg [(str d.fName),(str d.fValue)])] ([d]:List GField) S el22 rfl rfl rfl (by decide) (Go.Eng.encS ⟨rfl,rfl⟩ enc0) ?_
    intro b1 b2 b3 aq ba S
    have j:=Sl.mono j aq
    have c:=Sl.mono c aq
    refine B b fun b4 bb b=>W.app (α:=GField) (i:=2) S el22 rfl rfl rfl j ba bb ?_
    intro bc b5 bd ar be S
    have j:=Sl.mono j ar
    have c:=Sl.mono c ar
    refine A<|We<|Wg<|Lg' z rfl<|M<|We ?_
    obtain rfl:=oi b
    exact ⟨rfl,⟨bd,bc,h7,h8,aj,rfl,al,am,rfl,be,c,(((an.trans aa).trans aq).trans ar),(S.drop _ (.cons _ (.cons _ (.cons_cons _ .slnil))))⟩⟩
   refine CF ap<|Ws<|Wg<|M' aj<|No<|A<|We ?_
   rcases condE b with ⟨au,b⟩ | ⟨au,b⟩
   ·refine CT au<|Ws<|Wg<|M' ak<|Fb ?_
    refine Lo 0 S<|M' h7 ?_
    refine WL.w (R.build [(0,(str d.fName)),(1,(str k))] [(str d.fName),(str k)] bp68 zer68 rfl rfl)<|W.bslice (α:=GField) [(agg [(str d.fName),(str k)])] ([(⟨d.fName,k⟩:GField)]:List GField) S el22 rfl rfl rfl (by decide) (Go.Eng.encS ⟨rfl,rfl⟩ enc0) ?_
    intro b6 b7 b8 av bf S
    have j:=Sl.mono j av
    have c:=Sl.mono c av
    refine B b fun b9 bg b=>W.app (α:=GField) (i:=2) S el22 rfl rfl rfl j bf bg ?_
    intro bh ca bi aw bj S
    have j:=Sl.mono j aw
    have c:=Sl.mono c aw
    refine A<|We<|Wg<|A<|We<|Wg<|Lg' z rfl<|M<|We ?_
    obtain rfl:=oi b
    exact ⟨rfl,⟨bi,bh,h7,h8,rfl,rfl,al,am,rfl,bj,c,(((an.trans aa).trans av).trans aw),(S.drop _ (.cons _ (.cons _ (.cons_cons _ .slnil))))⟩⟩
   refine CF au ?_
   cases b
  refine CF ao<|Wx ?_
  obtain rfl:=oi b
  obtain rfl:=a6
  exact ⟨l,t,aj,ak,j,S⟩
 intro f w hM
 obtain ⟨az,ad⟩:=ac
 obtain ⟨ae,x,bk,bn,bo,S⟩:=hM
 refine Ws<|Ws<|Wg<|M' bk<|No<|We ?_
 rcases condE h with ⟨ax,h⟩ | ⟨ax,h⟩
 ·refine CT ax ?_
  cases h
 refine CF ax<|Wk<|Ws<|Wg<|M' bn<|A<|We ?_
 obtain rfl:=oi h
 refine WP.ret (Out.one rfl S rfl ?_)
 exact bo
theorem zFz {l:World} {p:Hp} (hw:Holds l p) (hG:Tryz.Gl l) (i:Str) (j:Str) (k:Int) {r:Str} (h:zA1 i j k=some r) :
  Con Tryz.prog 173 [(str i),(str j),(int k)] l p (fun H' v=>v=(str r)):=by
 refine Con.mk (N:=45) Tryz.func173 rfl rfl kr rfl ?_
 have S:=St.start hw
 refine Ws<|Wg<|A<|We<|Ws<|Wg<|M<|B h fun s1 q h=>Je q<|M<|B h fun s2 t h=>Je t<|B h fun s3 u h=>Je u<|M<|B h fun r4 x h=>W.call S rfl (zEJ S.holds (hG.post S.post) k x) ?_
 rintro v5 w6 H7 ak S rfl
 refine B h fun z aa h=>Je aa<|A<|We<|Ws<|Ws<|Wg<|M<|B h fun b ab h=>W.call S rfl (zDQ S.holds (hG.post S.post) z ab) ?_
 rintro al am an ao S rfl
 refine M ?_
 refine Ex ?_
 refine Ex ?_
 refine Ex ?_
 refine Ex<|A<|A<|A<|A<|We<|Ws<|Wg ?_
 refine M<|Lf<|M ?_
 refine WL.grp 4 [30,31,32] 33 (boo ((b.2.2.2 !=0)||(b.1 !=i))) ?_ ?_
 ·rcases boolE (b.2.2.2 !=0) with c | c
  ·refine Gn c<|Gn c<|Gn c<|Pt c ?_
   exact We ⟨(orT c),ag,rfl⟩
  refine Gy c<|M<|Gy c<|M<|Gy c<|Nb<|Pf c ?_
  exact We ⟨(orF c),ag,rfl⟩
 intro us
 refine M ?_
 refine WL.grp 4 [35,36,37] 38 (boo (((b.2.2.2 !=0)||(b.1 !=i))||(b.2.1 !=j))) ?_ ?_
 ·rcases boolE ((b.2.2.2 !=0)||(b.1 !=i)) with d | d
  ·refine Gn d<|Gn d<|Gn d<|Pt d ?_
   exact We ⟨(orT d),ag,rfl⟩
  refine Gy d<|M<|Gy d<|M<|Gy d<|Nb<|Pf d ?_
  exact We ⟨(orF d),ag,rfl⟩
 intro us
 refine M ?_
 refine WL.grp 4 [40,41,42] 43 (boo ((((b.2.2.2 !=0)||(b.1 !=i))||(b.2.1 !=j))||(b.2.2.1 !=k))) ?_ ?_
 ·rcases boolE (((b.2.2.2 !=0)||(b.1 !=i))||(b.2.1 !=j)) with f | f
  ·refine Gn f<|Gn f<|Gn f<|Pt f ?_
   exact We ⟨(orT f),ag,rfl⟩
  refine Gy f<|M<|Gy f<|M<|Gy f<|Lf<|Pf f ?_
  exact We ⟨(orF f),ag,rfl⟩
 intro us
 refine We ?_
 rcases condE h with ⟨o,h⟩ | ⟨o,h⟩
 ·refine CT o ?_
  cases h
 refine CF o<|Wk<|Ws<|Wg<|M<|A<|We ?_
 obtain rfl:=oi h
 refine WP.ret (Out.one rfl S rfl ?_)
 exact rfl
theorem zGh {k:World} {l:Hp} (hw:Holds k l) (hG:Tryz.Gl k) (b:GRequest) {j:Value} (t:Sl (α:=GField) l j b.fFields) {r:Str} (h:zBK b=some r) :
  Con Tryz.prog 106 [(agg [(str b.fMethod),(str b.fTarget),(int b.fMinor),j,(str b.fBody)])] k l (fun H' v=>v=(str r)):=by
 refine Con.mk (N:=41) Tryz.func106 rfl rfl kr rfl ?_
 have S:=St.start hw
 refine Ws<|Wg ?_
 refine W.box [(str b.fMethod),(str b.fTarget),(int b.fMinor),j,(str b.fBody)] S rfl rfl ?_
 intro b1 w2 S
 refine A<|We<|Ws<|Ws<|Wg<|Fb ?_
 refine Lo 0 S<|Ns<|Lc<|We ?_
 rcases condE h with ⟨o,h⟩ | ⟨o,h⟩
 ·refine CT o ?_
  cases h
 refine CF o<|Wk<|Ws<|Wg<|Fb ?_
 refine Lo 0 S<|Ns<|A<|We<|Ws<|Ws<|Wg ?_
 refine M<|Le<|M ?_
 refine WL.grp 4 [14,15,16] 17 (boo (((b.fBody.length:Int)==0)&&(b.fMethod !=[80,79,83,84]))) ?_ ?_
 ·rcases boolE ((b.fBody.length:Int)==0) with c | c
  ·refine Gy c<|Fb<|Gy c ?_
   refine Lo 0 S<|Gy c<|Nb<|Pt c ?_
   exact We ⟨(andT c),ag,rfl⟩
  refine Gn c<|Gn c<|Gn c<|Pf c ?_
  exact We ⟨(andF c),ag,rfl⟩
 intro us
 refine M ?_
 refine WL.grp 4 [19,20,21] 22 (boo ((((b.fBody.length:Int)==0)&&(b.fMethod !=[80,79,83,84]))&&(b.fMethod !=[80,85,84]))) ?_ ?_
 ·rcases boolE (((b.fBody.length:Int)==0)&&(b.fMethod !=[80,79,83,84])) with d | d
  ·refine Gy d<|Fb<|Gy d ?_
   refine Lo 0 S<|Gy d<|Nb<|Pt d ?_
   exact We ⟨(andT d),ag,rfl⟩
  refine Gn d<|Gn d<|Gn d<|Pf d ?_
  exact We ⟨(andF d),ag,rfl⟩
 intro us
 refine M ?_
 refine WL.grp 4 [24,25,26] 27 (boo (((((b.fBody.length:Int)==0)&&(b.fMethod !=[80,79,83,84]))&&(b.fMethod !=[80,85,84]))&&(b.fMethod !=[80,65,84,67,72]))) ?_ ?_
 ·rcases boolE ((((b.fBody.length:Int)==0)&&(b.fMethod !=[80,79,83,84]))&&(b.fMethod !=[80,85,84])) with f | f
  ·refine Gy f<|Fb<|Gy f ?_
   refine Lo 0 S<|Gy f<|Nb<|Pt f ?_
   exact We ⟨(andT f),ag,rfl⟩
  refine Gn f<|Gn f<|Gn f<|Pf f ?_
  exact We ⟨(andF f),ag,rfl⟩
 intro us
 refine We ?_
 rcases condE h with ⟨p,h⟩ | ⟨p,h⟩
 ·refine CT p<|Wg<|A<|We<|Ws<|WP.quiet S kr kr<|QFb ?_
  refine WQ.val (fun w hw=>by obtain ⟨_,hq,S⟩:=hw; exact (R.loadB (i:=0) (v:=str b.fMethod) S rfl rfl lay9 rfl))<|QFb ?_
  refine WQ.val (fun w hw=>by obtain ⟨_,hq,S⟩:=hw; exact (R.loadB (i:=0) (v:=str b.fTarget) S rfl rfl lay9 rfl))<|QFb ?_
  refine WQ.val (fun w hw=>by obtain ⟨_,hq,S⟩:=hw; exact (R.loadB (i:=0) (v:=int b.fMinor) S rfl rfl lay3 rfl))<|B h fun q u h=>WQ.call (v:=str q) rfl (fun w H' hq S=>zFz S.holds (hG.post S.post) b.fMethod b.fTarget b.fMinor u)<|QFb ?_
  refine WQ.val (fun w hw=>by obtain ⟨_,hq,S⟩:=hw; exact (R.loadB (i:=0) (v:=j) S rfl rfl lay22 rfl))<|QM<|QFb ?_
  refine WQ.val (fun w hw=>by obtain ⟨_,hq,S⟩:=hw; exact (R.loadB (i:=0) (v:=str b.fBody) S rfl rfl lay9 rfl))<|B h fun x z h=>WQ.call (v:=str x) rfl (fun w H' hq S=>zGZ S.holds (hG.post S.post) q b.fFields (-1) b.fBody (Sl.mono t hq) z)<|QA<|WQ.nil ?_
  intro ac ad ae S
  obtain rfl:=oi h
  refine WP.ret (Out.one rfl S rfl ?_)
  exact rfl
 refine CF p ?_
 cases h
end Go.Proofs
