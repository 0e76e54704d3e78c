/- A part. -/
import Derived.Test.YtipgfplekgdoiaaGreatDoorEng38
import Derived.Test.YtipgfplekgdoiaaGreatDoorEng33
import Derived.Test.YtipgfplekgdoiaaGreatDoorGenK5
namespace Go.Proofs
set_option maxHeartbeats 4000000
set_option maxRecDepth 10000
open Go.Eng Go.Eng.Pure
set_option linter.unusedVariables false
theorem zHf {q:World} {o:Hp} (hw:Holds q o) (t:(List GParam)) (d:GParam) {u:Value} (j:Sl o u t) {r:Bool} (h:zCo t d=some r) :
  Cb Tryz.prog 259 [u,(agg [(str d.fName),(str d.fValue)])] q o r:=by
 refine CM 26 Tryz.func259 hw fun S=>?_
 refine Ws<|Wg ?_
 refine W.box [(str d.fName),(str d.fValue)] S rfl rfl ?_
 intro v w2 S
 refine A<|We<|Ws<|Ws<|Wg<|M<|Nq j<|M<|We<|B h fun x ak h=>WP.cut (fun f w=>match x with | .inl _=>∃ (H9:Hp),St q o w H9 [] | .inr _=>False) ?_ ?_
 ·refine Wb ?_
  refine WP.loopM (zBO t d) (fun s f w=>match s with | ae=>∃ (p:Hp),f 3=(ptr v 0)∧f 7=u∧f 8=(int (t.length:Int))∧f 9=(int ae)∧Sl p u t∧St q o w p [.box v 161 [(str d.fName),(str d.fValue)]]) 0 x ak ?_ ?_
  ·exact ⟨o,rfl,rfl,rfl,rfl,j,S⟩
  intro ae f w hI aw c af
  obtain ⟨p,z,h5,h6,h8,j,S⟩:=hI
  refine Ws<|Wg<|La' h8 h6<|We<|Ws ?_
  rcases condE c with ⟨ab,c⟩ | ⟨ab,c⟩
  ·refine CT ab<|Wk<|Ws<|Wb<|Ws<|Wg<|B c fun k al c=>W.idx (α:=GParam) j h5 h8 el156 al ?_
   rintro ax _ am rfl
   refine WL.w (R.loadHN (vs:=[(str k.fName),(str k.fValue)]) S rfl am zHU rfl rfl) ?_
   refine W.alloc [(str []),(str [])] S zKn ?_
   intro an ay S
   refine W.store (i:=0) [(str k.fName),(str k.fValue)] S rfl rfl rfl zHU rfl rfl (Nat.le_of_ble_eq_true rfl) rfl ?_
   intro az S
   refine We<|Ws<|Wg<|Fb ?_
   refine Lo 0 S<|Fb' z ?_
   refine Lo 1 S<|Na<|M<|B c fun ao l c=>WL.grpw 6 [19,20,21,22,23] 24 (boo ao) (fun w=>∃ H':Hp,p.le H'∧St q o w H' [.box an 161 [(str k.fName),(str k.fValue)],.box v 161 [(str d.fName),(str d.fValue)]]) ?_ ?_
   ·rcases boolE (k.fName==d.fName) with b | b
    ·replace l:=condT l b
     refine Gy b<|Fb<|Gy b ?_
     refine Lo 0 S<|Gy b<|Fb' z<|Gy b ?_
     refine Lo 1 S<|Gy b<|B l fun a0 ap l=>W.call S rfl (zDM S.holds k.fValue d.fValue ap) ?_
     rintro a1 a2 aq aj S rfl
     have j:=j.up aj
     refine Pt b ?_
     exact We ⟨(ob l),ag,⟨aq,aj,S⟩⟩
    replace l:=condF l b
    refine Gn b<|Gn b<|Gn b<|Gn b<|Gn b<|Pf b ?_
    exact We ⟨(ob l),ag,⟨p,lr,S⟩⟩
   intro us a3 ⟨ar,au,S⟩
   have j:=j.up au
   refine We ?_
   rcases condE c with ⟨ac,c⟩ | ⟨ac,c⟩
   ·refine CT ac<|Ws<|Wg<|A<|We ?_
    cases c
    obtain rfl:=af
    exact WP.ret (Rb h S)
   refine CF ac<|Wk<|Wg<|Lg' h8 rfl<|M<|We ?_
   cases c
   exact ⟨rfl,⟨ar,z,h5,h6,rfl,j,(S.drop _ (.cons _ (.cons_cons _ .slnil)))⟩⟩
  refine CF ab<|Wx ?_
  cases c
  obtain rfl:=af
  exact ⟨p,(S.drop _ (.cons _ .slnil))⟩
 intro f w hM
 rcases x with _ | e
 ·obtain ⟨H9,S⟩:=hM
  refine Ws<|Wg<|A<|We ?_
  exact WP.ret (Rb h S)
 exact hM.elim
theorem zIY {z:World} {q:Hp} (hw:Holds z q) (b:GMediaType) (c:GMediaType) {p:Value} {v:Value} (o:Sl q p b.fParams) (u:Sl q v c.fParams) {r:Int} (h:zEJ b c=some r) :
  Ci Tryz.prog 250 [(agg [(str b.fType),(str b.fSub),p]),(agg [(str c.fType),(str c.fSub),v])] z q r:=by
 refine CM 57 Tryz.func250 hw fun S=>?_
 refine Ws<|Wg ?_
 refine W.box [(str b.fType),(str b.fSub),p] S rfl rfl ?_
 intro b1 w2 S
 refine W.box [(str c.fType),(str c.fSub),v] S rfl rfl ?_
 intro b3 w4 S
 refine A<|We<|Ws<|Wb<|Ws<|Wg<|Fb ?_
 refine Lo 1 S<|Na<|M ?_
 refine WL.grp 4 [12,13,14] 15 (boo ((b.fType==[42])&&(b.fSub==[42]))) ?_ ?_
 ·rcases boolE (b.fType==[42]) with l | l
  ·refine Gy l<|Fb<|Gy l ?_
   refine Lo 1 S<|Gy l<|Na<|Pt l ?_
   exact We ⟨(andT l),ag,rfl⟩
  refine Gn l<|Gn l<|Gn l<|Pf l ?_
  exact We ⟨(andF l),ag,rfl⟩
 intro us
 refine A<|We ?_
 rcases condE h with ⟨ab,h⟩ | ⟨ab,h⟩
 ·refine CT ab<|Ws<|Wg<|A<|We ?_
  exact WP.ret (Ri h S)
 refine CF ab<|Ws<|Wg<|Fb ?_
 refine Lo 1 S<|Na<|M ?_
 refine WL.grp 6 [21,22,23,24,25] 26 (boo ((b.fSub==[42])&&(b.fType==c.fType))) ?_ ?_
 ·rcases boolE (b.fSub==[42]) with d | d
  ·refine Gy d<|Fb<|Gy d ?_
   refine Lo 1 S<|Gy d<|Fb<|Gy d ?_
   refine Lo 0 S<|Gy d<|Na<|Pt d ?_
   exact We ⟨(andT d),ag,rfl⟩
  refine Gn d<|Gn d<|Gn d<|Gn d<|Gn d<|Pf d ?_
  exact We ⟨(andF d),ag,rfl⟩
 intro us
 refine A<|We ?_
 rcases condE h with ⟨ac,h⟩ | ⟨ac,h⟩
 ·refine CT ac<|Ws<|Wg<|A<|We ?_
  exact WP.ret (Ri h S)
 refine CF ac<|Ws<|Wg<|Fb ?_
 refine Lo 1 S<|Fb ?_
 refine Lo 0 S<|Nb<|M ?_
 refine WL.grp 6 [34,35,36,37,38] 39 (boo ((b.fType !=c.fType)||(b.fSub !=c.fSub))) ?_ ?_
 ·rcases boolE (b.fType !=c.fType) with j | j
  ·refine Gn j<|Gn j<|Gn j<|Gn j<|Gn j<|Pt j ?_
   exact We ⟨(orT j),ag,rfl⟩
  refine Gy j<|Fb<|Gy j ?_
  refine Lo 1 S<|Gy j<|Fb<|Gy j ?_
  refine Lo 0 S<|Gy j<|Nb<|Pf j ?_
  exact We ⟨(orF j),ag,rfl⟩
 intro us
 refine A<|We ?_
 rcases condE h with ⟨ad,h⟩ | ⟨ad,h⟩
 ·refine CT ad<|Ws<|Wg<|A<|We ?_
  exact WP.ret (Ri h S)
 refine CF ad<|Wk<|Ws<|Ws<|Wg<|Fb ?_
 refine Lo 1 S<|Nq o<|M<|We<|B h fun ae au h=>WP.cut (fun f w=>match ae with | .inl _=>∃ (af:Hp),f 2=(ptr b1 0)∧Sl af p b.fParams∧St z q w af [.box b1 158 [(str b.fType),(str b.fSub),p]] | .inr _=>False) ?_ ?_
 ·refine Wb ?_
  refine WP.loopM (zB0 b c) (fun s f w=>match s with | al=>∃ (x:Hp),f 2=(ptr b1 0)∧f 3=(ptr b3 0)∧f 41=p∧f 42=(int (b.fParams.length:Int))∧f 43=(int al)∧Sl x p b.fParams∧Sl x v c.fParams∧St z q w x [.box b3 158 [(str c.fType),(str c.fSub),v],.box b1 158 [(str b.fType),(str b.fSub),p]]) 0 ae au ?_ ?_
  ·exact ⟨q,rfl,rfl,rfl,rfl,rfl,o,u,S⟩
  intro al f w hI a2 k am
  obtain ⟨x,an,ao,ap,aq,ah,o,u,S⟩:=hI
  refine Ws<|Wg<|La' ah aq<|We<|Ws ?_
  rcases condE k with ⟨ai,k⟩ | ⟨ai,k⟩
  ·refine CT ai<|Wk<|Ws<|Wb<|Ws<|Wg<|B k fun t av k=>W.idx (α:=GParam) o ap ah el156 av ?_
   rintro a3 _ aw rfl
   refine WL.w (R.loadHN (vs:=[(str t.fName),(str t.fValue)]) S rfl aw zHU rfl rfl) ?_
   refine W.alloc [(str []),(str [])] S zKn ?_
   intro a4 a5 S
   refine W.store (i:=0) [(str t.fName),(str t.fValue)] S rfl rfl rfl zHU rfl rfl (Nat.le_of_ble_eq_true rfl) rfl ?_
   intro a6 S
   refine We<|Ws<|Wg<|Fb' ao ?_
   refine Lo 1 S ?_
   refine WL.w (R.loadBN (i:=0) (vs:=[(str t.fName),(str t.fValue)]) S rfl rfl zHU rfl rfl)<|B k fun a7 ax k=>W.call S rfl (zHf S.holds c.fParams t u ax) ?_
   rintro a8 a9 ay ar S rfl
   have o:=o.up ar
   have u:=u.up ar
   refine No<|We ?_
   rcases condE k with ⟨aj,k⟩ | ⟨aj,k⟩
   ·refine CT aj<|Ws<|Wg<|A<|We ?_
    cases k
    obtain rfl:=am
    exact WP.ret (Ri h S)
   refine CF aj<|Wk<|Wg<|Lg' ah rfl<|M<|We ?_
   cases k
   exact ⟨rfl,⟨ay,an,ao,ap,aq,rfl,o,u,(S.drop _ (.cons _ (.cons_cons _ (.cons_cons _ .slnil))))⟩⟩
  refine CF ai<|Wx ?_
  cases k
  obtain rfl:=am
  exact ⟨x,an,o,(S.drop _ (.cons _ (.cons_cons _ .slnil)))⟩
 intro f w hM
 rcases ae with _ | e
 ·obtain ⟨af,az,o,S⟩:=hM
  refine Ws<|Wg<|Fb' az ?_
  refine Lo 0 S<|Nq o<|Lg<|A<|We ?_
  exact WP.ret (Ri h S)
 exact hM.elim
theorem zGJ {i:World} {j:Hp} (hw:Holds i j) (d:Str) (f:Str) {r:Bool} (h:zBt d f=some r) :
  Cb Tryz.prog 268 [(str d),(str f)] i j r:=by
 refine CM 18 Tryz.func268 hw fun S=>?_
 refine Ws<|Wg<|A<|We<|Ws<|Wg<|M<|Ns<|M<|Ns<|Ld<|M<|B h fun k c h=>WL.grp 7 [11,12,13,14,15,16] 17 (boo k) ?_ ?_
 ·rcases boolE (decide ((f.length:Int)≤(d.length:Int))) with b | b
  ·replace c:=condT c b
   refine Gy b<|M<|Gy b<|M<|Gy b<|Ns<|Gy b<|B c fun o l c=>Jd l<|Gy b<|M<|Gy b<|Na<|Pt b ?_
   exact We ⟨(ob c),ag,rfl⟩
  replace c:=condF c b
  refine Gn b<|Gn b<|Gn b<|Gn b<|Gn b<|Gn b<|Pf b ?_
  exact We ⟨(ob c),ag,rfl⟩
 intro us
 refine A<|We ?_
 exact WP.ret (Rb h S)
theorem zHz {d:World} {f:Hp} (hw:Holds d f) (b:Str) (c:Str) {r:Bool} (h:zEb b c=some r) :
  Cb Tryz.prog 260 [(str b),(str c)] d f r:=by
 refine CM 8 Tryz.func260 hw fun S=>?_
 refine Ws<|Wg<|A<|We<|Ws<|Wg<|M<|M<|B h fun j i h=>W.call S rfl (zGJ S.holds b c i) ?_
 rintro k l o p S rfl
 refine A<|We ?_
 exact WP.ret (Rb h S)
theorem zJD {i:World} {j:Hp} (hw:Holds i j) (d:Str) (f:Str) {r:Int} (h:zEl d f=some r) :
  Ci Tryz.prog 251 [(str d),(str f)] i j r:=by
 refine CM 26 Tryz.func251 hw fun S=>?_
 refine Ws<|Wg<|A<|We<|Ws<|Ws<|Wg<|M<|B h fun q t h=>W.call S rfl (zGU S.holds d t) ?_
 rintro v2 w3 p al S rfl
 refine No<|M<|B h fun u c h=>WL.grpw 4 [9,10,11] 12 (boo u) (fun w=>∃ H':Hp,p.le H'∧St i j w H' []) ?_ ?_
 ·rcases boolE (!q) with b | b
  ·replace c:=condT c b
   refine Gn b<|Gn b<|Gn b<|Pt b ?_
   exact We ⟨(ob c),ag,⟨p,lr,S⟩⟩
  replace c:=condF c b
  refine Gy b<|M<|Gy b<|B c fun r8 v c=>W.call S rfl (zFl S.holds f v) ?_
  rintro v9 ao x z S rfl
  refine Gy b<|No<|Pf b ?_
  exact We ⟨(ob c),ag,⟨x,z,S⟩⟩
 intro us ap ⟨aq,ar,S⟩
 refine We ?_
 rcases condE h with ⟨k,h⟩ | ⟨k,h⟩
 ·refine CT k<|Ws<|Wg<|A<|We ?_
  exact WP.ret (Ri h S)
 refine CF k<|Wk<|Ws<|Ws<|Wg<|M<|Na<|We ?_
 rcases condE h with ⟨l,h⟩ | ⟨l,h⟩
 ·refine CT l<|Ws<|Wg<|A<|We ?_
  exact WP.ret (Ri h S)
 refine CF l<|Wk<|Ws<|Ws<|Wg<|M<|B h fun au aa h=>W.call S rfl (zAV S.holds f aa) ?_
 rintro av aw ax ay S rfl
 refine B h fun ab ac h=>Je ac<|M<|B h fun az ad h=>W.call S rfl (zAV S.holds d ad) ?_
 rintro a0 a1 a2 a3 S rfl
 refine B h fun ae af h=>Je af<|B h fun a4 ah h=>W.call S rfl (zHz S.holds ab ae ah) ?_
 rintro a5 a6 a7 a8 S rfl
 refine No<|We ?_
 rcases condE h with ⟨o,h⟩ | ⟨o,h⟩
 ·refine CT o<|Ws<|Wg<|A<|We ?_
  exact WP.ret (Ri h S)
 refine CF o<|Wk<|Ws<|Wg<|M<|B h fun a9 ai h=>W.call S rfl (zG3 S.holds d [45] ai) ?_
 rintro ba bb bc bd S rfl
 refine Lg<|A<|We ?_
 exact WP.ret (Ri h S)
theorem zKG {j:World} {k:Hp} (hw:Holds j k) (b:Int) (c:Str) (d:Str) {r:Int} (h:zFw b c d=some r) :
  Ci Tryz.prog 252 [(int b),(str c),(str d)] j k r:=by
 refine CM 18 Tryz.func252 hw fun S=>?_
 refine Ws<|Wg<|A<|We<|Ws<|Wb<|Ws<|Wg<|M<|Na<|A<|We ?_
 rcases condE h with ⟨f,h⟩ | ⟨f,h⟩
 ·refine CT f<|Ws<|Wg<|A<|We ?_
  exact WP.ret (Ri h S)
 refine CF f<|Ws<|Wg<|M<|M<|B h fun p l h=>W.call S rfl (zBk S.holds b c l) ?_
 rintro q t u v S rfl
 refine M<|M<|B h fun x o h=>W.call S rfl (zBk S.holds b d o) ?_
 rintro z w9 ab ac S rfl
 refine Na<|A<|We ?_
 rcases condE h with ⟨i,h⟩ | ⟨i,h⟩
 ·refine CT i<|Ws<|Wg<|A<|We ?_
  exact WP.ret (Ri h S)
 refine CF i<|Wk<|Ws<|Wg<|A<|We ?_
 exact WP.ret (Ri h S)
theorem zKS {v:World} {t:Hp} (hw:Holds v t) (z:Int) (u:Str) (o:Str) {r:Int} (h:zF0 z u o=some r) :
  Ci Tryz.prog 220 [(int z),(str u),(str o)] v t r:=by
 refine CM 57 Tryz.func220 hw fun S=>?_
 refine Ws<|Wg<|A<|We<|Ws<|Ws<|Wg<|M<|We<|B h fun j3 b h=>WP.cut (fun f w=>match j3 with | .inl _=>∃ (H1:Hp),St v t w H1 [] | .inr _=>False) ?_ ?_
 ·refine Wb<|Ws<|Wg<|Le<|A<|We ?_
  rcases condE b with ⟨ab,b⟩ | ⟨ab,b⟩
  ·refine CT ab<|Ws<|Wg<|M<|B b fun d av b=>W.call S rfl (zCV S.holds u av) ?_
   rintro v6 w7 H8 bb S ⟨ac,rfl,aa⟩
   refine M ?_
   refine Ex ?_
   refine Ex ?_
   refine W.alloc [(str []),(str []),(.slice none 0 0)] S zDQ ?_
   intro bc bd S
   refine W.store (i:=0) [(str d.1.fType),(str d.1.fSub),ac] S rfl rfl rfl zA9 rfl (AllOne.all (l:=[(str d.1.fType),(str d.1.fSub),ac]) (.cons rfl (.cons rfl (.cons (Sl.oneC aa) .nil)))) (Nat.le_of_ble_eq_true rfl) rfl ?_
   intro be S
   refine A<|We<|Ws<|Wg<|M<|B b fun p aw b=>W.call S rfl (zFp S.holds o aw) ?_
   rintro bf bg bh ax S ⟨ad,rfl,ap⟩
   have aa:=aa.up ax
   refine M ?_
   refine Ex ?_
   refine Ex ?_
   refine W.alloc [(str []),(str []),(.slice none 0 0)] S zDQ ?_
   intro bi bj S
   refine W.store (i:=0) [(str p.1.fType),(str p.1.fSub),ad] S rfl rfl rfl zA9 rfl (AllOne.all (l:=[(str p.1.fType),(str p.1.fSub),ad]) (.cons rfl (.cons rfl (.cons (Sl.oneC ap) .nil)))) (Nat.le_of_ble_eq_true rfl) rfl ?_
   intro bk S
   refine A<|We<|Ws<|Ws<|Wg<|M<|No<|M ?_
   refine WL.grp 3 [27,28] 29 (boo ((!d.2)||(!p.2))) ?_ ?_
   ·rcases boolE (!d.2) with j | j
    ·refine Gn j<|Gn j<|Pt j ?_
     exact We ⟨(orT j),ag,rfl⟩
    refine Gy j<|M<|Gy j<|No<|Pf j ?_
    exact We ⟨(orF j),ag,rfl⟩
   intro us
   refine We ?_
   rcases condE b with ⟨ae,b⟩ | ⟨ae,b⟩
   ·refine CT ae<|Ws<|Wg<|A<|We ?_
    cases b
    exact WP.ret (Ri h S)
   refine CF ae<|Wk<|Ws<|Wg ?_
   refine WL.w (R.loadBN (i:=1) (vs:=[(str d.1.fType),(str d.1.fSub),ac]) S rfl rfl zA9 rfl rfl) ?_
   refine WL.w (R.loadBN (i:=0) (vs:=[(str p.1.fType),(str p.1.fSub),ad]) S rfl rfl zA9 rfl rfl)<|B b fun bn ay b=>W.call S rfl (zIY S.holds d.1 p.1 aa ap ay) ?_
   rintro bo bp bq br S rfl
   refine A<|We ?_
   cases b
   exact WP.ret (Ri h S)
  refine CF ab<|Ws<|Wg<|Le<|A<|We ?_
  rcases condE b with ⟨af,b⟩ | ⟨af,b⟩
  ·refine CT af<|Ws<|Wg<|M<|M<|B b fun bs az b=>W.call S rfl (zJD S.holds u o az) ?_
   rintro bt bu bv bw S rfl
   refine A<|We ?_
   cases b
   exact WP.ret (Ri h S)
  refine CF af<|Ws<|Ws<|Wg<|Le<|A<|We<|B b fun a0 x b=>WP.cut (fun f w=>∃ (ah:Hp),f 0=(int z)∧f 1=(str u)∧f 2=(str o)∧f 38=(boo a0)∧St v t w ah []) ?_ ?_
  ·rcases condE x with ⟨ai,x⟩ | ⟨ai,x⟩
   ·refine CT ai<|Wk ?_
    cases x
    exact ⟨t,rfl,rfl,rfl,rfl,S⟩
   refine CF ai<|Wg<|Le<|A<|We ?_
   cases x
   exact ⟨t,rfl,rfl,rfl,rfl,S⟩
  rintro f w ⟨ah,a1,aq,aj,ar,S⟩
  rcases condE b with ⟨ak,b⟩ | ⟨ak,b⟩
  ·refine WP.condT ar ak<|Ws<|Ws<|Wg<|M' aq<|B b fun a2 a3 b=>W.call S rfl (zAz S.holds u a3) ?_
   rintro bx bz au b0 S rfl
   refine No<|M<|B b fun al q b=>WL.grpw 4 [45,46,47] 48 (boo al) (fun w=>∃ H':Hp,au.le H'∧St v t w H' []) ?_ ?_
   ·rcases boolE (!a2) with c | c
    ·replace q:=condT q c
     refine Gn c<|Gn c<|Gn c<|Pt c ?_
     exact We ⟨(ob q),ag,⟨au,lr,S⟩⟩
    replace q:=condF q c
    refine Gy c<|M' aj<|Gy c<|B q fun b1 a4 q=>W.call S rfl (zAz S.holds o a4) ?_
    rintro b2 b3 a5 a6 S rfl
    refine Gy c<|No<|Pf c ?_
    exact We ⟨(ob q),ag,⟨a5,a6,S⟩⟩
   intro us b4 ⟨b5,b6,S⟩
   refine M ?_
   refine WL.grp 3 [50,51] 52 (boo (al||(o==[42]))) ?_ ?_
   ·rcases boolE al with k | k
    ·refine Gn k<|Gn k<|Pt k ?_
     exact We ⟨(orT k),ag,rfl⟩
    refine Gy k<|M' aj<|Gy k<|Na<|Pf k ?_
    exact We ⟨(orF k),ag,rfl⟩
   intro us
   refine We ?_
   rcases condE b with ⟨am,b⟩ | ⟨am,b⟩
   ·refine CT am<|Ws<|Wg<|A<|We ?_
    cases b
    exact WP.ret (Ri h S)
   refine CF am<|Wk<|Ws<|Wg<|M' a1<|M' aq<|M' aj<|B b fun b7 a7 b=>W.call S rfl (zKG S.holds z u o a7) ?_
   rintro b8 b9 ca cb S rfl
   refine A<|We ?_
   cases b
   exact WP.ret (Ri h S)
  refine WP.condF ar ak<|Wk ?_
  cases b
  exact ⟨ah,S⟩
 intro f w hM
 rcases j3 with _ | e
 ·obtain ⟨H1,S⟩:=hM
  refine Ws<|Wg<|A<|We ?_
  exact WP.ret (Ri h S)
 exact hM.elim
theorem zJz {t:World} {o:Hp} (hw:Holds t o) (k:Int) (u:(List GPref)) (an:Bool) (p:Str) {x:Value} (c:Sl o x u) {r:Int} (h:zE1 k u an p=some r) :
  Ci Tryz.prog 183 [(int k),x,(boo an),(str p)] t o r:=by
 refine CM 45 Tryz.func183 hw fun S=>?_
 refine Ws<|Wg<|A<|We<|Ws<|Ws<|Wg<|M<|No<|We ?_
 rcases condE h with ⟨ae,h⟩ | ⟨ae,h⟩
 ·refine CT ae<|Ws<|Wg<|A<|We ?_
  exact WP.ret (Ri h S)
 refine CF ae<|Wk<|Ws<|Wg<|A<|A<|We<|Ws<|Ws<|Wg<|M<|Nq c ?_
 refine M<|We<|B h fun af av h=>WP.cut (fun f w=>match af with | (v,ao)=>∃ (z:Hp),f 0=(int k)∧f 3=(str p)∧f 9=(int v)∧f 10=(int ao)∧St t o w z []) ?_ ?_
 ·refine Wb ?_
  refine WP.loopM (zC2 k u p) (fun s f w=>match s with | (ap,aq,ar)=>∃ (H2:Hp),f 0=(int k)∧f 3=(str p)∧f 9=(int ap)∧f 10=(int aq)∧f 16=x∧f 17=(int (u.length:Int))∧f 18=(int ar)∧Sl H2 x u∧St t o w H2 []) ((-1),0,0) af av ?_ ?_
  ·exact ⟨o,rfl,rfl,rfl,rfl,rfl,rfl,rfl,c,S⟩
  intro s f w hI bc b aw
  obtain ⟨ap,aq,ar⟩:=s
  obtain ⟨H2,h3,h4,h6,h8,h9,aj,ad,c,S⟩:=hI
  refine Ws<|Wg<|La' ad aj<|We<|Ws ?_
  rcases condE b with ⟨ak,b⟩ | ⟨ak,b⟩
  ·refine CT ak<|Wk<|Ws<|Wb<|Ws<|Wg<|B b fun q ax b=>W.idx (α:=GPref) c h9 ad el122 ax ?_
   rintro bd _ ay rfl
   refine WL.w (R.loadHN (vs:=[(str q.fRange),(int q.fQ)]) S rfl ay zDU rfl rfl) ?_
   refine W.alloc [(str []),(int 0)] S zG5 ?_
   intro be bf S
   refine W.store (i:=0) [(str q.fRange),(int q.fQ)] S rfl rfl rfl zDU rfl rfl (Nat.le_of_ble_eq_true rfl) rfl ?_
   intro bg S
   refine We<|Ws<|Wg<|M' h3<|Fb ?_
   refine Lo 0 S<|M' h4<|B b fun bh az b=>W.call S rfl (zKS S.holds k q.fRange p az) ?_
   rintro bi bj a0 a1 S rfl
   have c:=c.up a1
   refine A<|We<|Ws<|Wg<|M<|M' h6<|Lc<|We ?_
   rcases condE b with ⟨al,b⟩ | ⟨al,b⟩
   ·refine CT al<|WP.quiet S kr kr<|QM<|QFb ?_
    refine QB 0 (int q.fQ)<|QA<|QA<|WQ.nil ?_
    intro bk a2 a3 S
    have c:=c.up a3
    refine Wg<|Lg' ad rfl<|M<|We ?_
    cases b
    exact ⟨rfl,⟨a2,h3,h4,rfl,rfl,h9,aj,rfl,c,(S.drop _ (.cons _ .slnil))⟩⟩
   refine CF al<|Wk<|Wg<|Lg' ad rfl<|M<|We ?_
   cases b
   exact ⟨rfl,⟨a0,h3,h4,h6,h8,h9,aj,rfl,c,(S.drop _ (.cons _ .slnil))⟩⟩
  refine CF ak<|Wx ?_
  cases b
  obtain rfl:=aw
  exact ⟨H2,h3,h4,h6,h8,S⟩
 intro f w hM
 obtain ⟨v,ao⟩:=af
 obtain ⟨z,a4,a5,a6,a7,S⟩:=hM
 refine Ws<|Ws<|Wg<|M' a6<|La<|M ?_
 refine WL.grp 3 [37,38] 39 (boo ((decide (v<0))&&(k==4))) ?_ ?_
 ·rcases boolE (decide (v<0)) with d | d
  ·refine Gy d<|M' a4<|Gy d<|Le<|Pt d ?_
   exact We ⟨(andT d),ag,rfl⟩
  refine Gn d<|Gn d<|Pf d ?_
  exact We ⟨(andF d),ag,rfl⟩
 intro us
 refine M<|B h fun a8 l h=>WL.grpw 3 [41,42] 43 (boo a8) (fun w=>∃ H':Hp,z.le H'∧St t o w H' []) ?_ ?_
 ·rcases boolE ((decide (v<0))&&(k==4)) with j | j
  ·replace l:=condT l j
   refine Gy j<|M' a5<|Gy j<|B l fun bn a9 l=>W.call S rfl (zDM S.holds p [105,100,101,110,116,105,116,121] a9) ?_
   rintro bo bp ba bb S rfl
   refine Pt j ?_
   exact We ⟨(ob l),ag,⟨ba,bb,S⟩⟩
  replace l:=condF l j
  refine Gn j<|Gn j<|Pf j ?_
  exact We ⟨(ob l),ag,⟨z,lr,S⟩⟩
 intro us bq ⟨br,bs,S⟩
 refine We ?_
 rcases condE h with ⟨am,h⟩ | ⟨am,h⟩
 ·refine CT am<|Ws<|Wg<|A<|We ?_
  exact WP.ret (Ri h S)
 refine CF am<|Wk<|Ws<|Wg<|M' a7<|A<|We ?_
 exact WP.ret (Ri h S)
theorem zL0 {w0:World} {t:Hp} (hw:Holds w0 t) (ae:Int) (af:(List GPref)) (ah:Bool) (x:(List Str)) {aa:Value} {ab:Value} (d:Sl t aa af) (c:Sl t ab x) {r:(List Str)} (h:zGa ae af ah x=some r) :
  Con Tryz.prog 143 [(int ae),aa,(boo ah),ab] w0 t (fun H' v=>Sl H' v r):=by
 refine CM 55 Tryz.func143 hw fun S=>?_
 have bj:=d
 have bk:=c
 refine Ws<|Wg<|A<|We<|Ws<|Wg<|A<|We<|Ws<|Wg<|A<|We ?_
 refine Ws<|Ws<|Wg<|M<|Nq c<|M<|We ?_
 obtain ⟨v1,a0⟩:∃ v:Value,v=.slice none 0 0:=⟨_,rfl⟩
 have R3:Sl (α:=Str) t v1 []:=by rw [a0]; exact Sl.nil
 replace S:=St.addNilV a0 S 9 1
 obtain ⟨v4,a1⟩:∃ v:Value,v=.slice none 0 0:=⟨_,rfl⟩
 have R6:Sl (α:=Int) t v4 []:=by rw [a1]; exact Sl.nil
 replace S:=St.addNilV a1 S 3 1
 refine B h fun a2 b6 h=>WP.cut (fun f w=>∃ (a3:Hp) (au:Value),f 9=au∧Sl a3 au a2∧St w0 t w a3 [.row au 9 1 a2.length]) ?_ ?_
 ·refine Wb ?_
  refine WP.loopM (zCL ae af ah x) (fun s f w=>match s with | (ai,z,av)=>∃ (H7:Hp) (p:Value) (u:Value),f 0=(int ae)∧f 1=aa∧f 2=(boo ah)∧f 9=p∧f 10=u∧f 15=ab∧f 16=(int (x.length:Int))∧f 17=(int av)∧Sl H7 aa af∧Sl H7 p ai∧Sl H7 u z∧Sl H7 ab x∧St w0 t w H7 [.row u 3 1 z.length,.row p 9 1 ai.length]) (([]:List Str),([]:List Int),0) a2 b6 ?_ ?_
  ·exact ⟨t,v1,v4,rfl,rfl,rfl,(Eq.trans (b:=.slice none 0 0) rfl a0.symm),(Eq.trans (b:=.slice none 0 0) rfl a1.symm),rfl,rfl,rfl,d,R3,R6,c,S⟩
  intro s f w hI cy k b7
  obtain ⟨ai,z,av⟩:=s
  obtain ⟨H7,p,u,h8,h9,a6,a7,a8,a9,ba,aw,d,q,o,c,S⟩:=hI
  refine Ws<|Wg<|La' aw ba<|We<|Ws ?_
  rcases condE k with ⟨bb,k⟩ | ⟨bb,k⟩
  ·refine CT bb<|Wk<|Ws<|Wb<|Ws<|Wg<|B k fun ao b8 k=>W.idx (α:=Str) c a9 aw el34 b8 ?_
   rintro cz _ b9 rfl
   refine Lq S b9<|A<|We<|Ws<|Wg<|M' h8<|M' h9<|M' a6<|M<|B k fun ap ca k=>W.call S rfl (zJz S.holds ae af ah ao d ca) ?_
   rintro c0 c1 bp ax S rfl
   have d:=d.up ax
   have q:=q.up ax
   have o:=o.up ax
   have c:=c.up ax
   refine A<|We<|Ws<|Ws<|Wg<|M<|Lb<|We ?_
   rcases condE k with ⟨bc,k⟩ | ⟨bc,k⟩
   ·refine CT bc<|Wx<|Wg<|Lg' aw rfl<|M<|We ?_
    cases k
    exact ⟨rfl,⟨bp,p,u,h8,h9,a6,a7,a8,a9,ba,rfl,d,q,o,c,S⟩⟩
   refine CF bc<|Wk<|Ws<|Wg<|M' a8<|Nq o<|A<|We<|Ws<|B k fun bq cb k=>WP.cut (fun f w=>∃ (an:Hp),f 0=(int ae)∧f 1=aa∧f 2=(boo ah)∧f 9=p∧f 10=u∧f 12=(str ao)∧f 13=(int ap)∧f 14=(int bq)∧f 15=ab∧f 16=(int (x.length:Int))∧f 17=(int av)∧Sl an aa af∧Sl an p ai∧Sl an u z∧Sl an ab x∧St w0 t w an [.row u 3 1 z.length,.row p 9 1 ai.length]) ?_ ?_
   ·refine Wb ?_
    refine WP.loopM (zD1 z ap) (fun s f w=>match s with | bd=>∃ (ac:Hp),f 0=(int ae)∧f 1=aa∧f 2=(boo ah)∧f 9=p∧f 10=u∧f 12=(str ao)∧f 13=(int ap)∧f 14=(int bd)∧f 15=ab∧f 16=(int (x.length:Int))∧f 17=(int av)∧Sl ac aa af∧Sl ac p ai∧Sl ac u z∧Sl ac ab x∧St w0 t w ac [.row u 3 1 z.length,.row p 9 1 ai.length]) (z.length:Int) bq cb ?_ ?_
    ·exact ⟨bp,h8,h9,a6,a7,a8,rfl,rfl,rfl,a9,ba,aw,d,q,o,c,S⟩
    intro bd f w hI c2 ak cc
    obtain ⟨ac,br,bs,bt,bu,be,bv,bf,ay,bw,bx,bz,d,q,o,c,S⟩:=hI
    refine Ws<|Ws<|Wg<|M' ay<|Lc<|M<|B ak fun cd ad ak=>WL.grp 8 [33,34,35,36,37,38,39] 40 (boo cd) ?_ ?_
    ·rcases boolE (decide (0<bd)) with l | l
     ·replace ad:=condT ad l
      refine Gy l<|M' be<|Gy l<|M' ay<|Gy l<|Lh<|Gy l<|B ad fun c3 ce ad=>W.idx (α:=Int) o rfl rfl el118 ce ?_
      rintro c4 _ cf rfl
      refine Gy l ?_
      refine Lq S cf<|Gy l<|M' bf<|Gy l<|La<|Pt l ?_
      exact We ⟨(ob ad),ag,rfl⟩
     replace ad:=condF ad l
     refine Gn l<|Gn l<|Gn l<|Gn l<|Gn l<|Gn l<|Gn l<|Pf l ?_
     exact We ⟨(ob ad),ag,rfl⟩
    intro us
    refine We ?_
    rcases condE ak with ⟨bg,ak⟩ | ⟨bg,ak⟩
    ·refine CT bg<|Wk<|Wb<|Wg<|M' ay<|Lh<|A<|We ?_
     cases ak
     exact ⟨rfl,⟨ac,br,bs,bt,bu,be,bv,bf,rfl,bw,bx,bz,d,q,o,c,S⟩⟩
    refine CF bg<|Wx ?_
    cases ak
    obtain rfl:=cc
    exact ⟨ac,br,bs,bt,bu,be,bv,bf,ay,bw,bx,bz,d,q,o,c,S⟩
   rintro f w ⟨an,cg,ch,ci,cj,ck,cl,cm,b0,cn,co,cp,d,q,o,c,S⟩
   refine Wg<|M' cj<|M' b0<|M' cl<|W.bslice (α:=Str) [(str ao)] ([ao]:List Str) S el34 rfl rfl rfl (by decide) (Go.Eng.encS ⟨rfl,rfl⟩ enc0) ?_
   intro c5 c6 c7 az al S
   have d:=d.up az
   have q:=q.up az
   have o:=o.up az
   have c:=c.up az
   refine B k fun c8 cq k=>W.insertRow (i:=2) (j:=0) zGL rfl (by decide) hw S (by decide) rfl rfl rfl rfl rfl q al cq ?_
   intro cr c9 da b1 b2 aq S
   have d:=bj.up b1
   have o:=b2 (show (2:Nat)≠1 from by decide) rfl o
   have c:=bk.up b1
   have al:=b2 (show (2:Nat)≠0 from by decide) rfl al
   refine M' ck<|M' b0<|M' cm<|W.bslice (α:=Int) [(int ap)] ([ap]:List Int) S el118 rfl rfl rfl (by decide) (Go.Eng.encS ⟨rfl,rfl⟩ enc0) ?_
   intro db dc dd ar bh S
   have d:=d.up ar
   have o:=o.up ar
   have c:=c.up ar
   have al:=al.up ar
   have aq:=aq.up ar
   refine B k fun de cs k=>W.insertRow (i:=2) (j:=0) zHS rfl (by decide) hw S (by decide) rfl rfl rfl rfl rfl o bh cs ?_
   intro ct df cu b3 bi cv S
   have d:=bj.up b3
   have c:=bk.up b3
   have al:=bi (show (2:Nat)≠1 from by decide) rfl al
   have aq:=bi (show (2:Nat)≠3 from by decide) rfl aq
   have bh:=bi (show (2:Nat)≠0 from by decide) rfl bh
   refine A<|A<|We<|Wg<|Lg' cp rfl<|M<|We ?_
   cases k
   exact ⟨rfl,⟨cu,cr,ct,cg,ch,ci,rfl,rfl,cn,co,rfl,d,aq,cv,c,(S.drop _ (.cons _ (.cons _ (.cons_cons _ (.cons_cons _ .slnil)))))⟩⟩
  refine CF bb<|Wx ?_
  cases k
  obtain rfl:=b7
  exact ⟨H7,p,a7,q,(S.drop _ (.cons _ (.cons_cons _ .slnil)))⟩
 rintro f w ⟨a3,au,cw,cx,S⟩
 refine Ws<|Wg<|M' cw<|A<|We ?_
 exact WP.ret (Rl h S cx)
theorem zE6 {k:World} {c:Hp} (hw:Holds k c) (d:(List Str)) (l:Str) {o:Value} (i:Sl c o d) {r:Int} (h:zBq d l=some r) :
  Ci Tryz.prog 122 [o,(str l)] k c r:=by
 refine CM 19 Tryz.func122 hw fun S=>?_
 refine Ws<|Wg<|A<|We<|Ws<|Ws<|Wg<|M<|Nq i<|M<|We<|B h fun p ad h=>WP.cut (fun f w=>match p with | .inl _=>∃ (v:Hp),St k c w v [] | .inr _=>False) ?_ ?_
 ·refine Wb ?_
  refine WP.loopM (zAf d l) (fun s f w=>match s with | x=>∃ (j:Hp),f 0=o∧f 1=(str l)∧f 7=(int (d.length:Int))∧f 8=(int x)∧Sl j o d∧St k c w j []) 0 p ad ?_ ?_
  ·exact ⟨c,rfl,rfl,rfl,rfl,i,S⟩
  intro x f w hI y8 b z
  obtain ⟨j,h2,h3,h4,q,i,S⟩:=hI
  refine Ws<|Wg<|La' q h4<|We<|Ws ?_
  rcases condE b with ⟨t,b⟩ | ⟨t,b⟩
  ·refine CT t<|Wk<|Ws<|Wb<|Ws<|Wg<|M' q<|A<|We<|Ws<|Wg<|M' h3 ?_
   refine M' h2<|M<|B b fun ai ae b=>W.idx (α:=Str) i rfl rfl el34 ae ?_
   rintro aj _ af rfl
   refine Lq S af<|Na<|We ?_
   rcases condE b with ⟨u,b⟩ | ⟨u,b⟩
   ·refine CT u<|Ws<|Wg<|M<|A<|We ?_
    cases b
    obtain rfl:=z
    exact WP.ret (Ri h S)
   refine CF u<|Wk<|Wg<|Lg' q rfl<|M<|We ?_
   cases b
   exact ⟨rfl,⟨j,h2,h3,h4,rfl,i,S⟩⟩
  refine CF t<|Wx ?_
  cases b
  obtain rfl:=z
  exact ⟨j,S⟩
 intro f w hM
 rcases p with _ | e
 ·obtain ⟨v,S⟩:=hM
  refine Ws<|Wg<|A<|We ?_
  exact WP.ret (Ri h S)
 exact hM.elim
theorem zCC {f:World} {b:Hp} (hw:Holds f b) (c:(List Str)) (d:Str) {i:Value} (j:Sl b i c) {r:Bool} (h:zAg c d=some r) :
  Cb Tryz.prog 96 [i,(str d)] f b r:=by
 refine CM 9 Tryz.func96 hw fun S=>?_
 refine Ws<|Wg<|A<|We<|Ws<|Wg<|M<|M<|B h fun l k h=>W.call S rfl (zE6 S.holds c d j k) ?_
 rintro o p q t S rfl
 refine Ld<|A<|We ?_
 exact WP.ret (Rb h S)
theorem zIE {t:World} {p:Hp} (hw:Holds t p) (d:GAxis) (u:(List GField)) (x:Bool) {l:Value} {ak:Value} (b:Sl p l d.fValues) (j:Sl p ak u) {r:(List Str)} (h:zDp d u x=some r) :
  Con Tryz.prog 108 [(agg [(str d.fName),l]),ak,(boo x)] t p (fun H' v=>Sl H' v r):=by
 refine CM 57 Tryz.func108 hw fun S=>?_
 refine Ws<|Wg ?_
 refine W.box [(str d.fName),l] S rfl rfl ?_
 intro b1 w2 S
 refine A<|We<|Ws<|Ws<|Wg ?_
 refine WL.w (R.loadBN (i:=0) (vs:=[(str d.fName),l]) S rfl rfl lay68 rfl rfl)<|W.bslice (α:=GAxis) [(agg [(str d.fName),l])] ([d]:List GAxis) S el22 rfl rfl rfl (by decide) (Go.Eng.encS ⟨rfl,_,rfl,b⟩ enc0) ?_
 intro u3 w4 H5 am R7 S
 have b:=b.up am
 have j:=j.up am
 refine B h fun r8 ay h=>W.call S rfl (zCD S.holds ([d]:List GAxis) R7 ay) ?_
 rintro v9 b4 b5 an S rfl
 have b:=b.up an
 have j:=j.up an
 refine No<|We ?_
 rcases condE h with ⟨ab,h⟩ | ⟨ab,h⟩
 ·refine CT ab<|Ws<|Wg<|A<|We ?_
  exact WP.ret (Rl h S Sl.nil)
 refine CF ab<|Wk<|Ws<|Wg<|A<|We<|Ws<|Ws<|Wg<|Fb ?_
 refine Lo 1 S<|B h fun ao az h=>W.call S rfl (zGC S.holds d.fName az) ?_
 rintro b6 b7 b8 ap S rfl
 have b:=b.up ap
 have j:=j.up ap
 refine A<|We<|Ws<|Wg<|M<|Lf<|We<|B h fun ac c h=>WP.cut (fun f w=>∃ (q:Hp) (z:Value),f 2=(boo x)∧f 3=(ptr b1 0)∧f 7=z∧Sl q z ac∧Sl q l d.fValues∧St t p w q [.box b1 68 [(str d.fName),l]]) ?_ ?_
 ·rcases condE c with ⟨ad,c⟩ | ⟨ad,c⟩
  ·refine CT ad<|Ws<|Wg<|M<|M<|B c fun aq a0 c=>W.call S rfl (zKH S.holds ao u j a0) ?_
   rintro b9 ca cb ar S ⟨cc,rfl,a1⟩
   have b:=b.up ar
   have j:=j.up ar
   refine M ?_
   refine Ex ?_
   refine Ex<|A<|A<|We<|Wg<|M<|M<|M<|Fb ?_
   refine Lo 1 S<|B c fun cd a2 c=>W.call S rfl (zL0 S.holds ao aq.1 aq.2 d.fValues a1 b a2) ?_
   rintro a3 ce a4 au S a5
   have b:=b.up au
   have j:=j.up au
   refine A<|We ?_
   cases c
   exact ⟨a4,a3,rfl,rfl,rfl,a5,b,(S.drop _ (.cons _ (.cons_cons _ .slnil)))⟩
  refine CF ad<|Ws<|Wg<|M<|Fb ?_
  refine Lo 1 S<|B c fun a6 a7 c=>W.call S rfl (zDx S.holds u d.fName j a7) ?_
  rintro cf cg ch a8 S a9
  have b:=b.up a8
  refine B c fun ae ba c=>W.call S rfl (zJN S.holds a6 a9 ba) ?_
  rintro ci cj ck bb S rfl
  have b:=b.up bb
  refine A<|We<|Ws<|Wg<|Fb ?_
  refine Lo 1 S<|M<|B c fun cl bc c=>W.call S rfl (zCC S.holds d.fValues ae b bc) ?_
  rintro cm cn bd be S rfl
  have b:=b.up be
  refine We ?_
  rcases condE c with ⟨af,c⟩ | ⟨af,c⟩
  ·refine CT af<|Wg<|M<|W.bslice (α:=Str) [(str ae)] ([ae]:List Str) S el34 rfl rfl rfl (by decide) (Go.Eng.encS ⟨rfl,rfl⟩ enc0) ?_
   intro bf co bg bh bi S
   have b:=b.up bh
   refine A<|We ?_
   cases c
   exact ⟨bg,bf,rfl,rfl,rfl,bi,b,(S.drop _ (.cons _ (.cons _ (.cons_cons _ .slnil))))⟩
  refine CF af<|Wk ?_
  cases c
  exact ⟨bd,.slice none 0 0,rfl,rfl,rfl,Sl.nil,b,(S.drop _ (.cons _ (.cons_cons _ .slnil)))⟩
 rintro f w ⟨q,z,bj,bk,av,aa,b,S⟩
 refine Ws<|Ws<|Wg<|M' av<|Nq aa<|Le<|M ?_
 refine WL.grp 3 [48,49] 50 (boo (((ac.length:Int)==0)&&(!x))) ?_ ?_
 ·rcases boolE ((ac.length:Int)==0) with k | k
  ·refine Gy k<|M' bj<|Gy k<|No<|Pt k ?_
   exact We ⟨(andT k),ag,rfl⟩
  refine Gn k<|Gn k<|Pf k ?_
  exact We ⟨(andF k),ag,rfl⟩
 intro us
 refine We<|B h fun bn o h=>WP.cut (fun f w=>∃ (ah:Hp) (ai:Value),f 7=ai∧Sl ah ai bn∧St t p w ah []) ?_ ?_
 ·rcases condE o with ⟨aj,o⟩ | ⟨aj,o⟩
  ·refine CT aj<|Wg<|Fb' bk ?_
   refine Lo 0 S<|B o fun aw bo o=>W.idx (α:=Str) b rfl rfl el34 bo ?_
   rintro cp _ bp rfl
   refine Lq S bp<|W.bslice (α:=Str) [(str aw)] ([aw]:List Str) S el34 rfl rfl rfl (by decide) (Go.Eng.encS ⟨rfl,rfl⟩ enc0) ?_
   intro bq cq br bs bt S
   have aa:=aa.up bs
   refine A<|We ?_
   cases o
   exact ⟨br,bq,rfl,bt,(S.drop _ (.cons _ (.cons _ .slnil)))⟩
  refine CF aj<|Wk ?_
  cases o
  exact ⟨q,z,av,aa,(S.drop _ (.cons _ .slnil))⟩
 rintro f w ⟨ah,ai,bu,bv,S⟩
 refine Ws<|Wg<|M' bu<|A<|We ?_
 exact WP.ret (Rl h S bv)
end Go.Proofs
