/- A part. -/
import Derived.Test.YtipgfplekgdoiaaGreatDoorEng38
import Derived.Test.YtipgfplekgdoiaaGreatDoorEng36
import Derived.Test.YtipgfplekgdoiaaGreatDoorGenK17
namespace Go.Proofs
set_option maxHeartbeats 4000000
set_option maxRecDepth 10000
open Go.Eng Go.Eng.Pure
set_option linter.unusedVariables false
theorem zH7 {i:World} {j:Hp} (hw:Holds i j) (d:Str) (f:Str) {r:Int} (h:zEM d f=some r) :
  Ci Tryz.prog 251 [(str d),(str f)] i j r:=by
 refine CM 26 Tryz.func251 hw fun S=>?_
 refine Ws<|Wg<|A<|We<|Ws<|Ws<|Wg<|M<|B h fun q t h=>W.call S rfl (zFw S.holds d t) ?_
 rintro v2 w3 p al S rfl
 refine No<|M<|B h fun u c h=>WL.grpw 4 [9,10,11] 12 (boo u) (fun w=>∃ H':Hp,p.le H'∧St i j w H' []) ?_ ?_
 ·rcases boolE (!q) with b | b
  ·replace c:=condT c b
   refine Gn b<|Gn b<|Gn b<|Pt b ?_
   exact We ⟨(ob c),ag,⟨p,lr,S⟩⟩
  replace c:=condF c b
  refine Gy b<|M<|Gy b<|B c fun r8 v c=>W.call S rfl (zFD S.holds f v) ?_
  rintro v9 ao x z S rfl
  refine Gy b<|No<|Pf b ?_
  exact We ⟨(ob c),ag,⟨x,z,S⟩⟩
 intro us ap ⟨aq,ar,S⟩
 refine We ?_
 rcases condE h with ⟨k,h⟩ | ⟨k,h⟩
 ·refine CT k<|Ws<|Wg<|A<|We ?_
  exact WP.ret (Ri h S)
 refine CF k<|Wk<|Ws<|Ws<|Wg<|M<|Na<|We ?_
 rcases condE h with ⟨l,h⟩ | ⟨l,h⟩
 ·refine CT l<|Ws<|Wg<|A<|We ?_
  exact WP.ret (Ri h S)
 refine CF l<|Wk<|Ws<|Ws<|Wg<|M<|B h fun au aa h=>W.call S rfl (zAe S.holds f aa) ?_
 rintro av aw ax ay S rfl
 refine B h fun ab ac h=>Je ac<|M<|B h fun az ad h=>W.call S rfl (zAe S.holds d ad) ?_
 rintro a0 a1 a2 a3 S rfl
 refine B h fun ae af h=>Je af<|B h fun a4 ah h=>W.call S rfl (zG8 S.holds ab ae ah) ?_
 rintro a5 a6 a7 a8 S rfl
 refine No<|We ?_
 rcases condE h with ⟨o,h⟩ | ⟨o,h⟩
 ·refine CT o<|Ws<|Wg<|A<|We ?_
  exact WP.ret (Ri h S)
 refine CF o<|Wk<|Ws<|Wg<|M<|B h fun a9 ai h=>W.call S rfl (zGT S.holds d [45] ai) ?_
 rintro ba bb bc bd S rfl
 refine Lg<|A<|We ?_
 exact WP.ret (Ri h S)
theorem zIy {j:World} {k:Hp} (hw:Holds j k) (b:Int) (c:Str) (d:Str) {r:Int} (h:zFV b c d=some r) :
  Ci Tryz.prog 252 [(int b),(str c),(str d)] j k r:=by
 refine CM 18 Tryz.func252 hw fun S=>?_
 refine Ws<|Wg<|A<|We<|Ws<|Wb<|Ws<|Wg<|M<|Na<|A<|We ?_
 rcases condE h with ⟨f,h⟩ | ⟨f,h⟩
 ·refine CT f<|Ws<|Wg<|A<|We ?_
  exact WP.ret (Ri h S)
 refine CF f<|Ws<|Wg<|M<|M<|B h fun p l h=>W.call S rfl (zBT S.holds b c l) ?_
 rintro q t u v S rfl
 refine M<|M<|B h fun x o h=>W.call S rfl (zBT S.holds b d o) ?_
 rintro z w9 ab ac S rfl
 refine Na<|A<|We ?_
 rcases condE h with ⟨i,h⟩ | ⟨i,h⟩
 ·refine CT i<|Ws<|Wg<|A<|We ?_
  exact WP.ret (Ri h S)
 refine CF i<|Wk<|Ws<|Wg<|A<|We ?_
 exact WP.ret (Ri h S)
theorem zIp {v:World} {t:Hp} (hw:Holds v t) (z:Int) (u:Str) (o:Str) {r:Int} (h:zFS z u o=some r) :
  Ci Tryz.prog 220 [(int z),(str u),(str o)] v t r:=by
 refine CM 57 Tryz.func220 hw fun S=>?_
 refine Ws<|Wg<|A<|We<|Ws<|Ws<|Wg<|M<|We<|B h fun j3 b h=>WP.cut (fun f w=>match j3 with | .inl _=>∃ (H1:Hp),St v t w H1 [] | .inr _=>False) ?_ ?_
 ·refine Wb<|Ws<|Wg<|Le<|A<|We ?_
  rcases condE b with ⟨ab,b⟩ | ⟨ab,b⟩
  ·refine CT ab<|Ws<|Wg<|M<|B b fun d av b=>W.call S rfl (zB4 S.holds u av) ?_
   rintro v6 w7 H8 bb S ⟨ac,rfl,aa⟩
   refine M ?_
   refine Ex ?_
   refine Ex ?_
   refine W.alloc [(str []),(str []),(.slice none 0 0)] S zDq ?_
   intro bc bd S
   refine W.store (i:=0) [(str d.1.fType),(str d.1.fSub),ac] S rfl rfl rfl zBJ rfl (AllOne.all (l:=[(str d.1.fType),(str d.1.fSub),ac]) (.cons rfl (.cons rfl (.cons (Sl.oneC aa) .nil)))) (Nat.le_of_ble_eq_true rfl) rfl ?_
   intro be S
   refine A<|We<|Ws<|Wg<|M<|B b fun p aw b=>W.call S rfl (zFL S.holds o aw) ?_
   rintro bf bg bh ax S ⟨ad,rfl,ap⟩
   have aa:=aa.up ax
   refine M ?_
   refine Ex ?_
   refine Ex ?_
   refine W.alloc [(str []),(str []),(.slice none 0 0)] S zDq ?_
   intro bi bj S
   refine W.store (i:=0) [(str p.1.fType),(str p.1.fSub),ad] S rfl rfl rfl zBJ rfl (AllOne.all (l:=[(str p.1.fType),(str p.1.fSub),ad]) (.cons rfl (.cons rfl (.cons (Sl.oneC ap) .nil)))) (Nat.le_of_ble_eq_true rfl) rfl ?_
   intro bk S
   refine A<|We<|Ws<|Ws<|Wg<|M<|No<|M ?_
   refine WL.grp 3 [27,28] 29 (boo ((!d.2)||(!p.2))) ?_ ?_
   ·rcases boolE (!d.2) with j | j
    ·refine Gn j<|Gn j<|Pt j ?_
     exact We ⟨(orT j),ag,rfl⟩
    refine Gy j<|M<|Gy j<|No<|Pf j ?_
    exact We ⟨(orF j),ag,rfl⟩
   intro us
   refine We ?_
   rcases condE b with ⟨ae,b⟩ | ⟨ae,b⟩
   ·refine CT ae<|Ws<|Wg<|A<|We ?_
    obtain rfl:=oi b
    exact WP.ret (Ri h S)
   refine CF ae<|Wk<|Ws<|Wg ?_
   refine WL.w (R.loadBN (i:=1) (vs:=[(str d.1.fType),(str d.1.fSub),ac]) S rfl rfl zBJ rfl rfl) ?_
   refine WL.w (R.loadBN (i:=0) (vs:=[(str p.1.fType),(str p.1.fSub),ad]) S rfl rfl zBJ rfl rfl)<|B b fun bn ay b=>W.call S rfl (zHp S.holds d.1 p.1 aa ap ay) ?_
   rintro bo bp bq br S rfl
   refine A<|We ?_
   obtain rfl:=oi b
   exact WP.ret (Ri h S)
  refine CF ab<|Ws<|Wg<|Le<|A<|We ?_
  rcases condE b with ⟨af,b⟩ | ⟨af,b⟩
  ·refine CT af<|Ws<|Wg<|M<|M<|B b fun bs az b=>W.call S rfl (zH7 S.holds u o az) ?_
   rintro bt bu bv bw S rfl
   refine A<|We ?_
   obtain rfl:=oi b
   exact WP.ret (Ri h S)
  refine CF af<|Ws<|Ws<|Wg<|Le<|A<|We<|B b fun a0 x b=>WP.cut (fun f w=>∃ (ah:Hp),f 0=(int z)∧f 1=(str u)∧f 2=(str o)∧f 38=(boo a0)∧St v t w ah []) ?_ ?_
  ·rcases condE x with ⟨ai,x⟩ | ⟨ai,x⟩
   ·refine CT ai<|Wk ?_
    obtain rfl:=oi x
    exact ⟨t,rfl,rfl,rfl,rfl,S⟩
   refine CF ai<|Wg<|Le<|A<|We ?_
   obtain rfl:=oi x
   exact ⟨t,rfl,rfl,rfl,rfl,S⟩
  rintro f w ⟨ah,a1,aq,aj,ar,S⟩
  rcases condE b with ⟨ak,b⟩ | ⟨ak,b⟩
  ·refine WP.condT ar ak<|Ws<|Ws<|Wg<|M' aq<|B b fun a2 a3 b=>W.call S rfl (zAx S.holds u a3) ?_
   rintro bx bz au b0 S rfl
   refine No<|M<|B b fun al q b=>WL.grpw 4 [45,46,47] 48 (boo al) (fun w=>∃ H':Hp,au.le H'∧St v t w H' []) ?_ ?_
   ·rcases boolE (!a2) with c | c
    ·replace q:=condT q c
     refine Gn c<|Gn c<|Gn c<|Pt c ?_
     exact We ⟨(ob q),ag,⟨au,lr,S⟩⟩
    replace q:=condF q c
    refine Gy c<|M' aj<|Gy c<|B q fun b1 a4 q=>W.call S rfl (zAx S.holds o a4) ?_
    rintro b2 b3 a5 a6 S rfl
    refine Gy c<|No<|Pf c ?_
    exact We ⟨(ob q),ag,⟨a5,a6,S⟩⟩
   intro us b4 ⟨b5,b6,S⟩
   refine M ?_
   refine WL.grp 3 [50,51] 52 (boo (al||(o==[42]))) ?_ ?_
   ·rcases boolE al with k | k
    ·refine Gn k<|Gn k<|Pt k ?_
     exact We ⟨(orT k),ag,rfl⟩
    refine Gy k<|M' aj<|Gy k<|Na<|Pf k ?_
    exact We ⟨(orF k),ag,rfl⟩
   intro us
   refine We ?_
   rcases condE b with ⟨am,b⟩ | ⟨am,b⟩
   ·refine CT am<|Ws<|Wg<|A<|We ?_
    obtain rfl:=oi b
    exact WP.ret (Ri h S)
   refine CF am<|Wk<|Ws<|Wg<|M' a1<|M' aq<|M' aj<|B b fun b7 a7 b=>W.call S rfl (zIy S.holds z u o a7) ?_
   rintro b8 b9 ca cb S rfl
   refine A<|We ?_
   obtain rfl:=oi b
   exact WP.ret (Ri h S)
  refine WP.condF ar ak<|Wk ?_
  obtain rfl:=oi b
  exact ⟨ah,S⟩
 intro f w hM
 rcases j3 with _ | e
 ·obtain ⟨H1,S⟩:=hM
  refine Ws<|Wg<|A<|We ?_
  exact WP.ret (Ri h S)
 exact hM.elim
theorem zI4 {t:World} {o:Hp} (hw:Holds t o) (k:Int) (u:(List GPref)) (an:Bool) (p:Str) {x:Value} (c:Sl o x u) {r:Int} (h:zER k u an p=some r) :
  Ci Tryz.prog 183 [(int k),x,(boo an),(str p)] t o r:=by
 refine CM 45 Tryz.func183 hw fun S=>?_
 refine Ws<|Wg<|A<|We<|Ws<|Ws<|Wg<|M<|No<|We ?_
 rcases condE h with ⟨ae,h⟩ | ⟨ae,h⟩
 ·refine CT ae<|Ws<|Wg<|A<|We ?_
  exact WP.ret (Ri h S)
 refine CF ae<|Wk<|Ws<|Wg<|A<|A<|We<|Ws<|Ws<|Wg<|M<|Nq c ?_
 refine M<|We<|B h fun af av h=>WP.cut (fun f w=>match af with | (v,ao)=>∃ (z:Hp),f 0=(int k)∧f 3=(str p)∧f 9=(int v)∧f 10=(int ao)∧St t o w z []) ?_ ?_
 ·refine Wb ?_
  refine WP.loopM (zCZ k u p) (fun s f w=>match s with | (ap,aq,ar)=>∃ (H2:Hp),f 0=(int k)∧f 3=(str p)∧f 9=(int ap)∧f 10=(int aq)∧f 16=x∧f 17=(int (u.length:Int))∧f 18=(int ar)∧Sl H2 x u∧St t o w H2 []) ((-1),0,0) af av ?_ ?_
  ·exact ⟨o,rfl,rfl,rfl,rfl,rfl,rfl,rfl,c,S⟩
  intro s f w hI bc b aw
  obtain ⟨ap,aq,ar⟩:=s
  obtain ⟨H2,h3,h4,h6,h8,h9,aj,ad,c,S⟩:=hI
  refine Ws<|Wg<|La' ad aj<|We<|Ws ?_
  rcases condE b with ⟨ak,b⟩ | ⟨ak,b⟩
  ·refine CT ak<|Wk<|Ws<|Wb<|Ws<|Wg<|B b fun q ax b=>W.idx (α:=GPref) c h9 ad el122 ax ?_
   rintro bd _ ay rfl
   refine WL.w (R.loadHN (vs:=[(str q.fRange),(int q.fQ)]) S rfl ay zGg rfl rfl) ?_
   refine W.alloc [(str []),(int 0)] S zJa ?_
   intro be bf S
   refine W.store (i:=0) [(str q.fRange),(int q.fQ)] S rfl rfl rfl zGg rfl rfl (Nat.le_of_ble_eq_true rfl) rfl ?_
   intro bg S
   refine We<|Ws<|Wg<|M' h3<|Fb ?_
   refine Lo 0 S<|M' h4<|B b fun bh az b=>W.call S rfl (zIp S.holds k q.fRange p az) ?_
   rintro bi bj a0 a1 S rfl
   have c:=c.up a1
   refine A<|We<|Ws<|Wg<|M<|M' h6<|Lc<|We ?_
   rcases condE b with ⟨al,b⟩ | ⟨al,b⟩
   ·refine CT al<|WP.quiet S kr kr<|QM<|QFb ?_
    refine QB 0 (int q.fQ)<|QA<|QA<|WQ.nil ?_
    intro bk a2 a3 S
    have c:=c.up a3
    refine Wg<|Lg' ad rfl<|M<|We ?_
    obtain rfl:=oi b
    exact ⟨rfl,⟨a2,h3,h4,rfl,rfl,h9,aj,rfl,c,(S.pk [])⟩⟩
   refine CF al<|Wk<|Wg<|Lg' ad rfl<|M<|We ?_
   obtain rfl:=oi b
   exact ⟨rfl,⟨a0,h3,h4,h6,h8,h9,aj,rfl,c,(S.pk [])⟩⟩
  refine CF ak<|Wx ?_
  obtain rfl:=oi b
  obtain rfl:=aw
  exact ⟨H2,h3,h4,h6,h8,S⟩
 intro f w hM
 obtain ⟨v,ao⟩:=af
 obtain ⟨z,a4,a5,a6,a7,S⟩:=hM
 refine Ws<|Ws<|Wg<|M' a6<|La<|M ?_
 refine WL.grp 3 [37,38] 39 (boo ((decide (v<0))&&(k==4))) ?_ ?_
 ·rcases boolE (decide (v<0)) with d | d
  ·refine Gy d<|M' a4<|Gy d<|Le<|Pt d ?_
   exact We ⟨(andT d),ag,rfl⟩
  refine Gn d<|Gn d<|Pf d ?_
  exact We ⟨(andF d),ag,rfl⟩
 intro us
 refine M<|B h fun a8 l h=>WL.grpw 3 [41,42] 43 (boo a8) (fun w=>∃ H':Hp,z.le H'∧St t o w H' []) ?_ ?_
 ·rcases boolE ((decide (v<0))&&(k==4)) with j | j
  ·replace l:=condT l j
   refine Gy j<|M' a5<|Gy j<|B l fun bn a9 l=>W.call S rfl (zCs S.holds p [105,100,101,110,116,105,116,121] a9) ?_
   rintro bo bp ba bb S rfl
   refine Pt j ?_
   exact We ⟨(ob l),ag,⟨ba,bb,S⟩⟩
  replace l:=condF l j
  refine Gn j<|Gn j<|Pf j ?_
  exact We ⟨(ob l),ag,⟨z,lr,S⟩⟩
 intro us bq ⟨br,bs,S⟩
 refine We ?_
 rcases condE h with ⟨am,h⟩ | ⟨am,h⟩
 ·refine CT am<|Ws<|Wg<|A<|We ?_
  exact WP.ret (Ri h S)
 refine CF am<|Wk<|Ws<|Wg<|M' a7<|A<|We ?_
 exact WP.ret (Ri h S)
theorem zKO {w0:World} {t:Hp} (hw:Holds w0 t) (ae:Int) (af:(List GPref)) (ah:Bool) (x:(List Str)) {aa:Value} {ab:Value} (d:Sl t aa af) (c:Sl t ab x) {r:(List Str)} (h:zFp ae af ah x=some r) :
  Con Tryz.prog 143 [(int ae),aa,(boo ah),ab] w0 t (fun H' v=>Sl H' v r):=by
 refine CM 55 Tryz.func143 hw fun S=>?_
 have bg:=d
 have bh:=c
 refine Ws<|Wg<|A<|We<|Ws<|Wg<|A<|We<|Ws<|Wg<|A<|We ?_
 refine Ws<|Ws<|Wg<|M<|Nq c<|M<|We ?_
 obtain ⟨v1,ax⟩:∃ v:Value,v=.slice none 0 0:=⟨_,rfl⟩
 have R3:Sl (α:=Str) t v1 []:=by rw [ax]; exact Sl.nil
 replace S:=St.addNilV ax S 9 1
 obtain ⟨v4,ay⟩:∃ v:Value,v=.slice none 0 0:=⟨_,rfl⟩
 have R6:Sl (α:=Int) t v4 []:=by rw [ay]; exact Sl.nil
 replace S:=St.addNilV ay S 3 1
 refine B h fun az b3 h=>WP.cut (fun f w=>∃ (a0:Hp) (ar:Value),f 9=ar∧Sl a0 ar az∧St w0 t w a0 [.row ar 9 1 az.length]) ?_ ?_
 ·refine Wb ?_
  refine WP.loopM (zB0 ae af ah x) (fun s f w=>match s with | (ai,z,au)=>∃ (H7:Hp) (p:Value) (u:Value),f 0=(int ae)∧f 1=aa∧f 2=(boo ah)∧f 9=p∧f 10=u∧f 15=ab∧f 16=(int (x.length:Int))∧f 17=(int au)∧Sl H7 aa af∧Sl H7 p ai∧Sl H7 u z∧Sl H7 ab x∧St w0 t w H7 [.row u 3 1 z.length,.row p 9 1 ai.length]) (([]:List Str),([]:List Int),0) az b3 ?_ ?_
  ·exact ⟨t,v1,v4,rfl,rfl,rfl,(Eq.trans (b:=.slice none 0 0) rfl ax.symm),(Eq.trans (b:=.slice none 0 0) rfl ay.symm),rfl,rfl,rfl,d,R3,R6,c,S⟩
  intro s f w hI cy k b4
  obtain ⟨ai,z,au⟩:=s
  obtain ⟨H7,p,u,h8,h9,a3,a4,a5,a6,a7,av,d,q,o,c,S⟩:=hI
  refine Ws<|Wg<|La' av a7<|We<|Ws ?_
  rcases condE k with ⟨a8,k⟩ | ⟨a8,k⟩
  ·refine CT a8<|Wk<|Ws<|Wb<|Ws<|Wg<|B k fun ao b5 k=>W.idx (α:=Str) c a6 av el34 b5 ?_
   rintro cz _ b6 rfl
   refine Lq S b6<|A<|We<|Ws<|Wg<|M' h8<|M' h9<|M' a3<|M<|B k fun ap b7 k=>W.call S rfl (zI4 S.holds ae af ah ao d b7) ?_
   rintro c0 c1 bk b8 S rfl
   have ⟨d,q,o,c⟩:=U4 b8 d q o c
   refine A<|We<|Ws<|Ws<|Wg<|M<|Lb<|We ?_
   rcases condE k with ⟨a9,k⟩ | ⟨a9,k⟩
   ·refine CT a9<|Wx<|Wg<|Lg' av rfl<|M<|We ?_
    obtain rfl:=oi k
    exact ⟨rfl,⟨bk,p,u,h8,h9,a3,a4,a5,a6,a7,rfl,d,q,o,c,S⟩⟩
   refine CF a9<|Wk<|Ws<|Wg<|M' a5<|Nq o<|A<|We<|Ws<|B k fun bn b9 k=>WP.cut (fun f w=>∃ (an:Hp),f 0=(int ae)∧f 1=aa∧f 2=(boo ah)∧f 9=p∧f 10=u∧f 12=(str ao)∧f 13=(int ap)∧f 14=(int bn)∧f 15=ab∧f 16=(int (x.length:Int))∧f 17=(int au)∧Sl an aa af∧Sl an p ai∧Sl an u z∧Sl an ab x∧St w0 t w an [.row u 3 1 z.length,.row p 9 1 ai.length]) ?_ ?_
   ·refine Wb ?_
    refine WP.loopM (zDO z ap) (fun s f w=>match s with | ba=>∃ (ac:Hp),f 0=(int ae)∧f 1=aa∧f 2=(boo ah)∧f 9=p∧f 10=u∧f 12=(str ao)∧f 13=(int ap)∧f 14=(int ba)∧f 15=ab∧f 16=(int (x.length:Int))∧f 17=(int au)∧Sl ac aa af∧Sl ac p ai∧Sl ac u z∧Sl ac ab x∧St w0 t w ac [.row u 3 1 z.length,.row p 9 1 ai.length]) (z.length:Int) bn b9 ?_ ?_
    ·exact ⟨bk,h8,h9,a3,a4,a5,rfl,rfl,rfl,a6,a7,av,d,q,o,c,S⟩
    intro ba f w hI c2 ak ca
    obtain ⟨ac,bo,bp,bq,br,bb,bs,bc,aw,bt,bu,bv,d,q,o,c,S⟩:=hI
    refine Ws<|Ws<|Wg<|M' aw<|Lc<|M<|B ak fun cb ad ak=>WL.grp 8 [33,34,35,36,37,38,39] 40 (boo cb) ?_ ?_
    ·rcases boolE (decide (0<ba)) with l | l
     ·replace ad:=condT ad l
      refine Gy l<|M' bb<|Gy l<|M' aw<|Gy l<|Lh<|Gy l<|B ad fun c3 cc ad=>W.idx (α:=Int) o rfl rfl el118 cc ?_
      rintro c4 _ cd rfl
      refine Gy l ?_
      refine Lq S cd<|Gy l<|M' bc<|Gy l<|La<|Pt l ?_
      exact We ⟨(ob ad),ag,rfl⟩
     replace ad:=condF ad l
     refine Gn l<|Gn l<|Gn l<|Gn l<|Gn l<|Gn l<|Gn l<|Pf l ?_
     exact We ⟨(ob ad),ag,rfl⟩
    intro us
    refine We ?_
    rcases condE ak with ⟨bd,ak⟩ | ⟨bd,ak⟩
    ·refine CT bd<|Wk<|Wb<|Wg<|M' aw<|Lh<|A<|We ?_
     obtain rfl:=oi ak
     exact ⟨rfl,⟨ac,bo,bp,bq,br,bb,bs,bc,rfl,bt,bu,bv,d,q,o,c,S⟩⟩
    refine CF bd<|Wx ?_
    obtain rfl:=oi ak
    obtain rfl:=ca
    exact ⟨ac,bo,bp,bq,br,bb,bs,bc,aw,bt,bu,bv,d,q,o,c,S⟩
   rintro f w ⟨an,ce,cf,cg,ch,ci,cj,ck,bw,cl,cm,cn,d,q,o,c,S⟩
   refine Wg<|M' ch<|M' bw<|M' cj<|W.bslice (α:=Str) [(str ao)] ([ao]:List Str) S el34 rfl rfl rfl (by decide) (Go.Eng.encS ⟨rfl,rfl⟩ enc0) ?_
   intro c5 c6 c7 co al S
   have ⟨d,q,o,c⟩:=U4 co d q o c
   refine B k fun c8 cp k=>W.insertRow (i:=2) (j:=0) zFx rfl (by decide) hw S (by decide) rfl rfl rfl rfl rfl q al cp ?_
   intro cq c9 da bx bz aq S
   have d:=bg.up bx
   have o:=bz (show (2:Nat)≠1 from by decide) rfl o
   have c:=bh.up bx
   have al:=bz (show (2:Nat)≠0 from by decide) rfl al
   refine M' ci<|M' bw<|M' ck<|W.bslice (α:=Int) [(int ap)] ([ap]:List Int) S el118 rfl rfl rfl (by decide) (Go.Eng.encS ⟨rfl,rfl⟩ enc0) ?_
   intro db dc dd cr be S
   have ⟨d,o,c,al,aq⟩:=U5 cr d o c al aq
   refine B k fun de cs k=>W.insertRow (i:=2) (j:=0) zGo rfl (by decide) hw S (by decide) rfl rfl rfl rfl rfl o be cs ?_
   intro ct df cu b0 bf cv S
   have d:=bg.up b0
   have c:=bh.up b0
   have al:=bf (show (2:Nat)≠1 from by decide) rfl al
   have aq:=bf (show (2:Nat)≠3 from by decide) rfl aq
   have be:=bf (show (2:Nat)≠0 from by decide) rfl be
   refine A<|A<|We<|Wg<|Lg' cn rfl<|M<|We ?_
   obtain rfl:=oi k
   exact ⟨rfl,⟨cu,cq,ct,ce,cf,cg,rfl,rfl,cl,cm,rfl,d,aq,cv,c,(S.pk [2,3])⟩⟩
  refine CF a8<|Wx ?_
  obtain rfl:=oi k
  obtain rfl:=b4
  exact ⟨H7,p,a4,q,(S.pk [1])⟩
 rintro f w ⟨a0,ar,cw,cx,S⟩
 refine Ws<|Wg<|M' cw<|A<|We ?_
 exact WP.ret (Rl h S cx)
theorem zHH {t:World} {p:Hp} (hw:Holds t p) (d:GAxis) (u:(List GField)) (x:Bool) {l:Value} {ak:Value} (b:Sl p l d.fValues) (j:Sl p ak u) {r:(List Str)} (h:zDB d u x=some r) :
  Con Tryz.prog 108 [(agg [(str d.fName),l]),ak,(boo x)] t p (fun H' v=>Sl H' v r):=by
 refine CM 57 Tryz.func108 hw fun S=>?_
 refine Ws<|Wg ?_
 refine W.box [(str d.fName),l] S rfl rfl ?_
 intro b1 w2 S
 refine A<|We<|Ws<|Ws<|Wg ?_
 refine WL.w (R.loadBN (i:=0) (vs:=[(str d.fName),l]) S rfl rfl lay68 rfl rfl)<|W.bslice (α:=GAxis) [(agg [(str d.fName),l])] ([d]:List GAxis) S el22 rfl rfl rfl (by decide) (Go.Eng.encS ⟨rfl,_,rfl,b⟩ enc0) ?_
 intro u3 w4 H5 aq R7 S
 have ⟨b,j⟩:=U2 aq b j
 refine B h fun r8 au h=>W.call S rfl (zD0 S.holds ([d]:List GAxis) R7 au) ?_
 rintro v9 b4 b5 av S rfl
 have ⟨b,j⟩:=U2 av b j
 refine No<|We ?_
 rcases condE h with ⟨ab,h⟩ | ⟨ab,h⟩
 ·refine CT ab<|Ws<|Wg<|A<|We ?_
  exact WP.ret (Rl h S Sl.nil)
 refine CF ab<|Wk<|Ws<|Wg<|A<|We<|Ws<|Ws<|Wg<|Fb ?_
 refine Lo 1 S<|B h fun am aw h=>W.call S rfl (zFc S.holds d.fName aw) ?_
 rintro b6 b7 b8 ax S rfl
 have ⟨b,j⟩:=U2 ax b j
 refine A<|We<|Ws<|Wg<|M<|Lf<|We<|B h fun ac c h=>WP.cut (fun f w=>∃ (q:Hp) (z:Value),f 2=(boo x)∧f 3=(ptr b1 0)∧f 7=z∧Sl q z ac∧Sl q l d.fValues∧St t p w q [.box b1 68 [(str d.fName),l]]) ?_ ?_
 ·rcases condE c with ⟨ad,c⟩ | ⟨ad,c⟩
  ·refine CT ad<|Ws<|Wg<|M<|M<|B c fun an ay c=>W.call S rfl (zI2 S.holds am u j ay) ?_
   rintro b9 ca cb az S ⟨cc,rfl,a0⟩
   have ⟨b,j⟩:=U2 az b j
   refine M ?_
   refine Ex ?_
   refine Ex<|A<|A<|We<|Wg<|M<|M<|M<|Fb ?_
   refine Lo 1 S<|B c fun cd a1 c=>W.call S rfl (zKO S.holds am an.1 an.2 d.fValues a0 b a1) ?_
   rintro a2 ce a3 a4 S a5
   have ⟨b,j⟩:=U2 a4 b j
   refine A<|We ?_
   obtain rfl:=oi c
   exact ⟨a3,a2,rfl,rfl,rfl,a5,b,(S.pk [1])⟩
  refine CF ad<|Ws<|Wg<|M<|Fb ?_
  refine Lo 1 S<|B c fun a6 a7 c=>W.call S rfl (zHT S.holds u d.fName j a7) ?_
  rintro cf cg ch a8 S a9
  have b:=b.up a8
  refine B c fun ae ba c=>W.call S rfl (zIM S.holds a6 a9 ba) ?_
  rintro ci cj ck bb S rfl
  have b:=b.up bb
  refine A<|We<|Ws<|Wg<|Fb ?_
  refine Lo 1 S<|M<|B c fun cl bc c=>W.call S rfl (zBr S.holds d.fValues ae b bc) ?_
  rintro cm cn bd be S rfl
  have b:=b.up be
  refine We ?_
  rcases condE c with ⟨af,c⟩ | ⟨af,c⟩
  ·refine CT af<|Wg<|M<|W.bslice (α:=Str) [(str ae)] ([ae]:List Str) S el34 rfl rfl rfl (by decide) (Go.Eng.encS ⟨rfl,rfl⟩ enc0) ?_
   intro bf co bg bh bi S
   have b:=b.up bh
   refine A<|We ?_
   obtain rfl:=oi c
   exact ⟨bg,bf,rfl,rfl,rfl,bi,b,(S.pk [2])⟩
  refine CF af<|Wk ?_
  obtain rfl:=oi c
  exact ⟨bd,.slice none 0 0,rfl,rfl,rfl,Sl.nil,b,(S.pk [1])⟩
 rintro f w ⟨q,z,bj,bk,ao,aa,b,S⟩
 refine Ws<|Ws<|Wg<|M' ao<|Nq aa<|Le<|M ?_
 refine WL.grp 3 [48,49] 50 (boo (((ac.length:Int)==0)&&(!x))) ?_ ?_
 ·rcases boolE ((ac.length:Int)==0) with k | k
  ·refine Gy k<|M' bj<|Gy k<|No<|Pt k ?_
   exact We ⟨(andT k),ag,rfl⟩
  refine Gn k<|Gn k<|Pf k ?_
  exact We ⟨(andF k),ag,rfl⟩
 intro us
 refine We<|B h fun bn o h=>WP.cut (fun f w=>∃ (ah:Hp) (ai:Value),f 7=ai∧Sl ah ai bn∧St t p w ah []) ?_ ?_
 ·rcases condE o with ⟨aj,o⟩ | ⟨aj,o⟩
  ·refine CT aj<|Wg<|Fb' bk ?_
   refine Lo 0 S<|B o fun ap bo o=>W.idx (α:=Str) b rfl rfl el34 bo ?_
   rintro cp _ bp rfl
   refine Lq S bp<|W.bslice (α:=Str) [(str ap)] ([ap]:List Str) S el34 rfl rfl rfl (by decide) (Go.Eng.encS ⟨rfl,rfl⟩ enc0) ?_
   intro bq cq br bs bt S
   have aa:=aa.up bs
   refine A<|We ?_
   obtain rfl:=oi o
   exact ⟨br,bq,rfl,bt,(S.pk [])⟩
  refine CF aj<|Wk ?_
  obtain rfl:=oi o
  exact ⟨q,z,ao,aa,(S.pk [])⟩
 rintro f w ⟨ah,ai,bu,bv,S⟩
 refine Ws<|Wg<|M' bu<|A<|We ?_
 exact WP.ret (Rl h S bv)
theorem zH9 {w0:World} {H0:Hp} (hw:Holds w0 H0) (ac:(List GAxis)) (a3:(List GField)) (a4:Bool) (al:Int) {o:Value} {bb:Value} (b:Sl H0 o ac) (ar:Sl H0 bb a3) {r:(List (List Str))} (h:zFY ac a3 a4 al=some r) :
  Con Tryz.prog 75 [o,bb,(boo a4),(int al)] w0 H0 (fun H' v=>Sl H' v r):=by
 refine CM 109 Tryz.func75 hw fun S=>?_
 refine Ws<|Wg<|A<|We<|Ws<|Ws<|Wg<|M<|B h fun r1 d4 h=>W.call S rfl (zD0 S.holds ac b d4) ?_
 rintro v2 w3 H4 d6 S rfl
 have ⟨b,ar⟩:=U2 d6 b ar
 refine No<|We ?_
 rcases condE h with ⟨bw,h⟩ | ⟨bw,h⟩
 ·refine CT bw<|Ws<|Wg<|A<|We ?_
  exact WP.ret (Rl h S Sl.nil)
 refine CF bw<|Wk<|Ws<|Wg<|M<|Nq b<|B h fun l7 d8 h=>W.makeSlice (α:=(List Str)) (zv:=(.slice none 0 0)) (z:=([]:List Str)) S el33 rfl rfl rfl zer34 ⟨_,rfl,Sl.nil⟩ d8 ?_
 intro q w9 d9 p ea eb S
 refine A<|We<|Ws<|Ws<|Wg<|M<|Nq b<|M<|We<|B h fun bx ec h=>WP.cut (fun f w=>match bx with | .inl ad=>∃ (a5:Hp) (x:List Value),f 0=o∧f 3=(int al)∧f 9=(.slice (some ⟨q,0,none⟩) p p)∧Sl a5 o ac∧Ms a5 x ad∧ad.length=p∧St w0 H0 w a5 [.box q 34 x] | .inr _=>False) ?_ ?_
 ·refine Wb ?_
  refine WP.loopM (zBO ac a3 a4) (fun s f w=>match s with | (bz,bc)=>∃ (a0:Hp) (bd:List Value),f 0=o∧f 1=bb∧f 2=(boo a4)∧f 3=(int al)∧f 9=(.slice (some ⟨q,0,none⟩) p p)∧f 24=o∧f 25=(int (ac.length:Int))∧f 26=(int bz)∧Sl a0 o ac∧Sl a0 bb a3∧Ms a0 bd bc∧bc.length=p∧St w0 H0 w a0 [.box q 34 bd]) (0,l7) bx ec ?_ ?_
  ·exact ⟨H4,d9,rfl,rfl,rfl,rfl,rfl,rfl,rfl,rfl,b,ar,eb,ea,S⟩
  intro s f w hI gp k ct
  obtain ⟨bz,bc⟩:=s
  obtain ⟨a0,bd,cu,cv,cw,cx,be,cy,cz,bf,b,ar,bg,b0,S⟩:=hI
  refine Ws<|Wg<|La' bf cz<|We<|Ws ?_
  rcases condE k with ⟨b1,k⟩ | ⟨b1,k⟩
  ·refine CT b1<|Wk<|Ws<|Wb<|Ws<|Wg<|M' bf<|B k fun a6 ed k=>W.idx (α:=GAxis) b cy bf el22 ed ?_
   rintro gq _ ee ⟨bh,rfl,c0⟩
   refine WL.w (R.loadHN (vs:=[(str a6.fName),bh]) S rfl ee lay68 rfl rfl) ?_
   refine W.alloc [(str []),(.slice none 0 0)] S zer68 ?_
   intro gr gs S
   refine A ?_
   refine W.store (i:=0) [(str a6.fName),bh] S rfl rfl rfl lay68 rfl (AllOne.all (l:=[(str a6.fName),bh]) (.cons rfl (.cons (Sl.oneC c0) .nil))) (Nat.le_of_ble_eq_true rfl) rfl ?_
   intro gt S
   refine We<|Ws<|Wg<|M' be<|M ?_
   refine WL.w (R.loadBN (i:=0) (vs:=[(str a6.fName),bh]) S rfl rfl lay68 rfl rfl)<|M' cv<|M' cw<|B k fun gu ef k=>W.call S rfl (zHH S.holds a6 a3 a4 c0 ar ef) ?_
   rintro gv gw eg c1 S c2
   have ⟨b,ar⟩:=U2 c1 b ar
   have bg:=Ms.mono bg c1
   refine B k fun gx eh k=>?_
   refine WL.w (R.idxM (α:=(List Str)) (xs:=bc) rfl b0 rfl el33 eh)<|B k fun ei c3 k=>?_
   refine W.storeM (α:=(List Str)) (i:=1) (m:=bz) S bg rfl rfl rfl lay34 (by obtain ⟨_,_,e9,_⟩:=c2; rw [e9]; rfl) ⟨_,rfl,c2⟩ c3 ?_
   intro gy ek c4 S
   have c5:=(zGD c3).1.trans b0
   refine We<|Ws<|Wg<|M' be<|M<|B k fun gz c6 k=>?_
   refine WL.w (R.idxM (α:=(List Str)) (xs:=ei) rfl c5 rfl el33 c6) ?_
   obtain ⟨_,_,g0,el,em⟩:=Ms.get c4 c6
   obtain ⟨g1,b2,en⟩:=em
   replace b2:=(List.cons.inj b2).1
   subst b2
   refine WL.w (R.loadB (i:=1) S rfl rfl lay34 el)<|Nq en<|Le<|We ?_
   rcases condE k with ⟨b3,k⟩ | ⟨b3,k⟩
   ·refine CT b3<|Ws<|Wg<|A<|We ?_
    obtain rfl:=oi k
    obtain rfl:=ct
    exact WP.ret (Rl h S Sl.nil)
   refine CF b3<|Wk<|Wg<|Lg' bf rfl<|M<|We ?_
   obtain rfl:=oi k
   exact ⟨rfl,⟨eg,ek,cu,cv,cw,cx,be,cy,cz,rfl,b,ar,c4,c5,(S.pk [1])⟩⟩
  refine CF b1<|Wx ?_
  obtain rfl:=oi k
  obtain rfl:=ct
  exact ⟨a0,bd,cu,cx,be,b,bg,b0,S⟩
 intro f w hM
 rcases bx with ad | e
 ·obtain ⟨a5,x,c7,eo,ep,b,d,c8,S⟩:=hM
  refine Ws<|Wg<|A<|We<|Ws<|Wg<|M' c7<|Nq b<|B h fun eq er h=>W.makeSlice (α:=Int) (zv:=(int 0)) (z:=0) S el118 rfl rfl rfl zer3 rfl er ?_
  intro af g2 es t et eu S
  refine A<|We<|Ws ?_
  have S:=S.addNil 34 1
  refine B h fun b4 ew h=>WP.cut (fun f w=>∃ (b5:Hp) (bi:Value),f 12=bi∧Sl b5 bi b4∧St w0 H0 w b5 [.row bi 34 1 b4.length]) ?_ ?_
  ·refine Wb ?_
   refine WP.loopM (zA4 ac al ad) (fun s f w=>match s with | (au,ah)=>∃ (av:Hp) (ai:Value) (ao:List Value),f 0=o∧f 3=(int al)∧f 9=(.slice (some ⟨q,0,none⟩) p p)∧f 12=ai∧f 13=(.slice (some ⟨af,0,none⟩) t t)∧Sl av o ac∧Sl av ai au∧Ms av ao ah∧Ms av x ad∧ah.length=t∧St w0 H0 w av [.row ai 34 1 au.length,.box af 3 ao,.box q 34 x]) (([]:List (List Str)),eq) b4 ew ?_ ?_
   ·exact ⟨a5,.slice none 0 0,es,c7,eo,ep,rfl,rfl,b,Sl.nil,eu,d,et,S⟩
   intro s f w hI g3 j c9
   obtain ⟨au,ah⟩:=s
   obtain ⟨av,ai,ao,da,db,ex,b6,dc,b,aa,ae,d,bj,S⟩:=hI
   refine Ws<|Ws<|Wg<|M' b6<|Nq aa<|M' db<|La<|We ?_
   rcases condE j with ⟨b7,j⟩ | ⟨b7,j⟩
   ·refine CT b7<|Wk<|Wb<|Ws<|Wg<|M' da<|Nq b<|B j fun ey ez j=>W.makeSlice (α:=Str) (zv:=(str [])) (z:=[]) S el34 rfl rfl rfl zer9 rfl ez ?_
    intro ay g4 e0 am e1 e2 S
    refine A<|We<|Ws<|Ws<|Wg<|M' dc ?_
    refine WL.w (v:=int (ah.length:Int)) (R.ofEq (R.lenV rfl Tryz.underlying118) (by rw [bj]))<|M<|We<|B j fun a7 e3 j=>WP.cut (fun f w=>∃ (az:Hp) (bk:List Value),f 0=o∧f 3=(int al)∧f 9=(.slice (some ⟨q,0,none⟩) p p)∧f 12=ai∧f 13=(.slice (some ⟨af,0,none⟩) t t)∧f 14=(.slice (some ⟨ay,0,none⟩) am am)∧Sl az o ac∧Sl az ai au∧Ms az bk a7∧Ms az ao ah∧Ms az x ad∧a7.length=am∧St w0 H0 w az [.box ay 9 bk,.row ai 34 1 au.length,.box af 3 ao,.box q 34 x]) ?_ ?_
    ·refine Wb ?_
     refine WP.loopM (zBP ad ah) (fun s f w=>match s with | (b9,bn)=>∃ (ap:Hp) (bo:List Value),f 0=o∧f 3=(int al)∧f 9=(.slice (some ⟨q,0,none⟩) p p)∧f 12=ai∧f 13=(.slice (some ⟨af,0,none⟩) t t)∧f 14=(.slice (some ⟨ay,0,none⟩) am am)∧f 55=(.slice (some ⟨af,0,none⟩) t t)∧f 56=(int (ah.length:Int))∧f 57=(int b9)∧Sl ap o ac∧Sl ap ai au∧Ms ap bo bn∧Ms ap ao ah∧Ms ap x ad∧bn.length=am∧St w0 H0 w ap [.box ay 9 bo,.row ai 34 1 au.length,.box af 3 ao,.box q 34 x]) (0,ey) a7 e3 ?_ ?_
     ·exact ⟨av,e0,da,db,ex,b6,dc,rfl,rfl,rfl,rfl,b,aa,e2,ae,d,e1,S⟩
     intro s f w hI g5 u e4
     obtain ⟨b9,bn⟩:=s
     obtain ⟨ap,bo,dd,de,ca,df,dh,cb,di,dj,bp,b,aa,dk,ae,d,cc,S⟩:=hI
     refine Ws<|Wg<|La' bp dj<|We<|Ws ?_
     rcases condE u with ⟨cd,u⟩ | ⟨cd,u⟩
     ·refine CT cd<|Wk<|Ws<|Wb<|Ws<|Wg<|M' bp<|B u fun e5 dl u=>?_
      refine WL.w (R.idxM (α:=Int) (xs:=ah) di bj bp el118 dl) ?_
      obtain ⟨_,_,e6,e7,e8⟩:=Ms.get ae dl
      obtain rfl:=(List.cons.inj (show [e6]=[(int e5)] from e8)).1
      refine WL.w (R.loadB (i:=2) S rfl rfl lay3 e7)<|A<|A<|We<|Wg<|M' cb<|M<|M' ca<|M<|B u fun g6 dm u=>?_
      refine WL.w (R.idxM (α:=(List Str)) (xs:=ad) rfl c8 rfl el33 dm) ?_
      obtain ⟨_,_,g7,fa,fb⟩:=Ms.get d dm
      obtain ⟨g8,ce,fc⟩:=fb
      replace ce:=(List.cons.inj ce).1
      subst ce
      refine WL.w (R.loadB (i:=3) S rfl rfl lay34 fa)<|M<|B u fun g9 fd u=>W.idx (α:=Str) fc rfl rfl el34 fd ?_
      rintro ha _ fe rfl
      refine Lq S fe<|B u fun hb ff u=>?_
      refine WL.w (R.idxM (α:=Str) (xs:=bn) rfl cc rfl el34 ff)<|B u fun hc dn u=>?_
      refine W.storeM (α:=Str) (i:=0) (m:=b9) S dk rfl rfl rfl lay9 rfl rfl dn ?_
      intro he fg fh S
      have fi:=(zGD dn).1.trans cc
      refine We<|Wg<|Lg' bp rfl<|M<|We ?_
      obtain rfl:=oi u
      exact ⟨rfl,⟨ap,fg,dd,de,ca,df,dh,cb,di,dj,rfl,b,aa,fh,ae,d,fi,S⟩⟩
     refine CF cd<|Wx ?_
     obtain rfl:=oi u
     obtain rfl:=e4
     exact ⟨ap,bo,dd,de,ca,df,dh,cb,b,aa,dk,ae,d,cc,S⟩
    rintro f w ⟨az,bk,fj,fk,fl,fm,dp,fn,b,aa,cf,ae,d,fo,S⟩
    refine Ws<|Wg<|M' fm<|M' fn ?_
    obtain ⟨cg,bq,fp,_,S⟩:=S.settle (i:=0) rfl
    replace S:St w0 H0 _ cg [.row ai 34 1 au.length,.box af 3 ao,.box q 34 x]:=S
    have fq:At cg ⟨ay,0,none⟩ bk:=⟨_,_,rfl,fp,[],by simp⟩
    have ⟨b,aa⟩:=U2 bq b aa
    have cf:=Ms.mono cf bq
    have ae:=Ms.mono ae bq
    have d:=Ms.mono d bq
    have ch:Sl cg (.slice (some ⟨ay,0,none⟩) am am) a7:=Ms.sl cf fo fq
    refine W.bslice (α:=(List Str)) [(.slice (some ⟨ay,0,none⟩) am am)] ([a7]:List (List Str)) S el33 rfl rfl rfl (by decide) (Go.Eng.encS ⟨(by rw [Sl.cellsOne ch]; rfl),_,(by rw [Sl.cellsOne ch]),ch⟩ enc0) ?_
    intro hf hg hh ci fr S
    have ⟨b,aa⟩:=U2 ci b aa
    have ae:=Ms.mono ae ci
    have d:=Ms.mono d ci
    refine B j fun br fs j=>W.app (α:=(List Str)) (i:=1) S el33 rfl rfl rfl aa fr fs ?_
    intro aw hi ft cj aq S
    have ⟨b,aa⟩:=U2 cj b aa
    have ae:=Ms.mono ae cj
    have d:=Ms.mono d cj
    refine A<|We<|Ws<|Wg<|M' dp ?_
    refine WL.w (v:=int (ah.length:Int)) (R.ofEq (R.lenV rfl Tryz.underlying118) (by rw [bj]))<|Lh<|A<|We<|Ws<|B j fun ck fu j=>WP.cut (fun f w=>match ck with | (cl,a8)=>∃ (ax:Hp) (cm:List Value),f 0=o∧f 3=(int al)∧f 9=(.slice (some ⟨q,0,none⟩) p p)∧f 12=aw∧f 13=(.slice (some ⟨af,0,none⟩) t t)∧f 17=(int cl)∧Sl ax o ac∧Sl ax aw br∧Ms ax cm a8∧Ms ax x ad∧a8.length=t∧St w0 H0 w ax [.row aw 34 1 br.length,.box af 3 cm,.box q 34 x]) ?_ ?_
    ·refine Wb ?_
     refine WP.loopM (zBQ ad) (fun s f w=>match s with | (bs,a9)=>∃ (a1:Hp) (bt:List Value),f 0=o∧f 3=(int al)∧f 9=(.slice (some ⟨q,0,none⟩) p p)∧f 12=aw∧f 13=(.slice (some ⟨af,0,none⟩) t t)∧f 17=(int bs)∧Sl a1 o ac∧Sl a1 aw br∧Ms a1 bt a9∧Ms a1 x ad∧a9.length=t∧St w0 H0 w a1 [.row aw 34 1 br.length,.box af 3 bt,.box q 34 x]) (wr ((ah.length:Int) - 1),ah) ck fu ?_ ?_
     ·exact ⟨ft,ao,fj,fk,fl,rfl,dp,rfl,b,aq,ae,d,bj,(S.pk [1,2,3])⟩
     intro s f w hI hj ak fv
     obtain ⟨bs,a9⟩:=s
     obtain ⟨a1,bt,dq,dr,cn,ds,bu,a2,b,aq,ba,d,bv,S⟩:=hI
     refine Ws<|Ws<|WP.quiet S kr kr<|QM' a2<|QLd<|QM<|B ak fun fw an ak=>WQ.grp 12 [83,84,85,86,87,88,89,90,91,92,93] 94 (boo fw) ?_ ?_
     ·rcases boolE (decide (0≤bs)) with c | c
      ·replace an:=condT an c
       refine QGy c<|QM' bu<|QGy c<|QM' a2<|QGy c<|B an fun fx dt an=>?_
       refine WQ.val (fun _ _=>(R.idxM (α:=Int) (xs:=a9) rfl bv rfl el118 dt))<|QGy c ?_
       obtain ⟨_,_,fy,fz,f0⟩:=Ms.get ba dt
       obtain rfl:=(List.cons.inj (show [fy]=[(int fx)] from f0)).1
       refine WQ.val (fun w hw=>by obtain ⟨_,hq,S⟩:=hw; exact (R.loadB (i:=1) S rfl rfl lay3 fz))<|QGy c<|QM' cn<|QGy c<|QM' a2<|QGy c<|B an fun hk du an=>?_
       refine WQ.val (fun _ _=>(R.idxM (α:=(List Str)) (xs:=ad) rfl c8 rfl el33 du))<|QGy c ?_
       obtain ⟨_,_,hl,f1,f2⟩:=Ms.get d du
       obtain ⟨hm,co,f3⟩:=f2
       replace co:=(List.cons.inj co).1
       subst co
       refine WQ.val (fun w hw=>by obtain ⟨_,hq,S⟩:=hw; exact (R.loadB (i:=2) S rfl rfl lay34 f1))<|QGy c<|QNq f3<|QGy c<|QLh<|QGy c<|QLe<|QPt c ?_
       exact WQ.nil ⟨(ob an),ag⟩
      replace an:=condF an c
      refine QGn c<|QGn c<|QGn c<|QGn c<|QGn c<|QGn c<|QGn c<|QGn c<|QGn c<|QGn c<|QGn c<|QPf c ?_
      exact WQ.nil ⟨(ob an),ag⟩
     intro us
     refine WQ.nil ?_
     intro hn dw cp S
     have ⟨b,aq⟩:=U2 cp b aq
     have ba:=Ms.mono ba cp
     have d:=Ms.mono d cp
     rcases condE ak with ⟨cq,ak⟩ | ⟨cq,ak⟩
     ·refine CT cq<|Wk<|Wb<|Ws<|Wg<|M' bu<|M' a2<|B ak fun ho f4 ak=>?_
      refine WL.w (R.idxM (α:=Int) (xs:=a9) rfl bv rfl el118 f4)<|B ak fun hp dx ak=>?_
      refine W.storeM (α:=Int) (i:=1) (m:=bs) S ba rfl rfl rfl lay3 rfl rfl dx ?_
      intro hr f5 f6 S
      have f7:=(zGD dx).1.trans bv
      refine We<|Wg<|M' a2<|Lh<|A<|We ?_
      obtain rfl:=oi ak
      exact ⟨rfl,⟨dw,f5,dq,dr,cn,ds,bu,rfl,b,aq,f6,d,f7,S⟩⟩
     refine CF cq<|Wx ?_
     obtain rfl:=oi ak
     obtain rfl:=fv
     exact ⟨dw,bt,dq,dr,cn,ds,bu,a2,b,aq,ba,d,bv,S⟩
    intro f w hM
    obtain ⟨cl,a8⟩:=ck
    obtain ⟨ax,cm,f8,f9,ga,dy,dz,d0,b,aq,d1,d,cr,S⟩:=hM
    refine Ws<|Ws<|Wg<|M' d0<|La<|We ?_
    rcases condE j with ⟨cs,j⟩ | ⟨cs,j⟩
    ·refine CT cs<|Wx ?_
     obtain rfl:=oi j
     obtain rfl:=c9
     exact ⟨ax,aw,dy,aq,(S.pk [0])⟩
    refine CF cs<|Wk<|Wg<|M' dz<|M' d0<|B j fun gb d2 j=>?_
    refine WL.w (R.idxM (α:=Int) (xs:=a8) rfl cr rfl el118 d2) ?_
    obtain ⟨_,_,gc,gd,ge⟩:=Ms.get d1 d2
    obtain rfl:=(List.cons.inj (show [gc]=[(int gb)] from ge)).1
    refine WL.w (R.loadB (i:=1) S rfl rfl lay3 gd)<|Lg<|B j fun hs gf j=>?_
    refine WL.w (R.idxM (α:=Int) (xs:=a8) rfl cr rfl el118 gf)<|B j fun ht d3 j=>?_
    refine W.storeM (α:=Int) (i:=1) (m:=cl) S d1 rfl rfl rfl lay3 rfl rfl d3 ?_
    intro hu gg gh S
    have gi:=(zGD d3).1.trans cr
    refine We ?_
    obtain rfl:=oi j
    exact ⟨rfl,⟨ax,aw,gg,f8,f9,ga,dy,dz,b,aq,gh,d,gi,S⟩⟩
   refine CF b7<|Wx ?_
   obtain rfl:=oi j
   obtain rfl:=c9
   exact ⟨av,ai,b6,aa,(S.pk [0])⟩
  rintro f w ⟨b5,bi,gj,gk,S⟩
  refine Ws<|Wg<|M' gj<|A<|We ?_
  exact WP.ret (Rl h S gk)
 exact hM.elim
theorem zH6 {j:World} {b:Hp} (hw:Holds j b) (c:(List GAxis)) (d:(List GField)) (f:Bool) {k:Value} {l:Value} (q:Sl b k c) (t:Sl b l d) {r:((List Str)×Bool)} (h:zEG c d f=some r) :
  Con Tryz.prog 37 [k,l,(boo f)] j b (fun H' v=>∃ o:Value,v=(.tuple ⟨[o,(boo r.2)]⟩)∧Sl H' o r.1):=by
 refine CM 19 Tryz.func37 hw fun S=>?_
 refine Ws<|Wg<|A<|A<|We<|Ws<|Wg<|M<|M<|M<|B h fun r1 u h=>W.call S rfl (zH9 S.holds c d f 1 q t u) ?_
 rintro v2 w3 H4 af S p
 refine A<|We<|Ws<|Ws<|Wg<|M<|Nq p<|Le<|We ?_
 rcases condE h with ⟨i,h⟩ | ⟨i,h⟩
 ·refine CT i<|Ws<|Wg<|A<|A<|We ?_
  obtain rfl:=oi h
  refine WP.ret (Out.two rfl S rfl rfl ?_)
  exact ⟨_,rfl,Sl.nil⟩
 refine CF i<|Wk<|Ws<|Wg<|M<|B h fun x8 x h=>W.idx (α:=(List Str)) p rfl rfl el33 x ?_
 rintro a9 _ z ⟨aj,rfl,aa⟩
 refine Lq S z<|A<|A<|We ?_
 obtain rfl:=oi h
 refine WP.ret (Out.two rfl S rfl rfl ?_)
 exact ⟨_,rfl,aa⟩
theorem zJE {p:World} {c:Hp} (hw:Holds p c) (b:GEntry) (d:GTable) (o:(List Str)) {f:Value} {j:Value} {k:Value} {l:Value} {q:Value} {t:Value} {u:Value} {v:Addr} {x:Addr} (z:Sl c f b.fKeys) (aa:Sl c j b.fVary) (ab:Sl c k b.fSnapshot) (ac:Sl c l b.fFields) (ad:At c v [q,t]) (ae:Sl c q d.fAxes) (ak:Sl c t d.fEntries) (af:At c x [u]) (ah:Sl c u o) {r:Bool} (h:zFQ b d o=some r) :
  Cb Tryz.prog 38 [(agg [f,j,k,(str b.fReason),l,(str b.fBody),(int b.fRequested),(int b.fReceived)]),(.pointer (some v)),(.pointer (some x))] p c r:=by
 refine CM 10 Tryz.func38 hw fun S=>?_
 refine Ws<|Wg ?_
 refine W.box [f,j,k,(str b.fReason),l,(str b.fBody),(int b.fRequested),(int b.fReceived)] S rfl rfl ?_
 intro b1 w2 S
 refine A<|We<|Ws<|Wg<|Fc ?_
 have ai:=At.add ad 0 (by simp)
 refine Lq S ai ?_
 refine WL.w (R.loadBN (i:=0) (vs:=[f,j,k,(str b.fReason),l,(str b.fBody),(int b.fRequested),(int b.fReceived)]) S rfl rfl lay36 rfl rfl) ?_
 refine Lq S af<|B h fun r4 aj h=>W.call S rfl (zIJ S.holds d.fAxes b o ae z aa ab ac ah aj) ?_
 rintro v5 w6 H7 ar S rfl
 refine A<|We ?_
 exact WP.ret (Rb h S)
end Go.Proofs
