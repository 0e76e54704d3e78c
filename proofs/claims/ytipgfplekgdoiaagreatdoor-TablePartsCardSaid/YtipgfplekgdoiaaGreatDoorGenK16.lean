/- A part. -/
import Derived.Test.YtipgfplekgdoiaaGreatDoorEng38
import Derived.Test.YtipgfplekgdoiaaGreatDoorEng36
import Derived.Test.YtipgfplekgdoiaaGreatDoorGenK15
namespace Go.Proofs
set_option maxHeartbeats 4000000
set_option maxRecDepth 10000
open Go.Eng Go.Eng.Pure
set_option linter.unusedVariables false
theorem zGS {p:World} {k:Hp} (hw:Holds p k) (t:(List GField)) (u:Str) {af:Value} (x:Sl k af t) {r:(List Str)} (h:zDv t u=some r) :
  Con Tryz.prog 125 [af,(str u)] p k (fun H' v=>Sl H' v r):=by
 refine CM 24 Tryz.func125 hw fun S=>?_
 refine Ws<|Wg<|A<|We<|Ws<|Wg<|A<|We<|Ws<|Ws<|Wg<|M ?_
 refine M<|B h fun r1 an h=>W.call S rfl (zFJ S.holds u an) ?_
 rintro v2 w3 H4 ao S ⟨kr1,cr1,rfl,Fr1⟩
 have x:=x.up ao
 refine B h fun z ap h=>W.call S rfl (zFF S.holds t r1 x (fun hle=>Fr1 (Hp.le.trans lr hle)) ap) ?_
 rintro v7 w8 H9 ba S b
 refine Nq b<|M<|We ?_
 have S:=S.addNil 9 1
 refine B h fun aa ar h=>WP.cut (fun f w=>∃ (ab:Hp) (q:Value),f 5=q∧Sl ab q aa∧St p k w ab [.row q 9 1 aa.length]) ?_ ?_
 ·refine Wb ?_
  refine WP.loopM (zCH z) (fun s f w=>match s with | (ac,ai)=>∃ (l:Hp) (o:Value),f 5=o∧f 11=v7∧f 12=(int (z.length:Int))∧f 13=(int ai)∧Sl l o ac∧Sl l v7 z∧St p k w l [.row o 9 1 ac.length]) (([]:List Str),0) aa ar ?_ ?_
  ·exact ⟨H9,.slice none 0 0,rfl,rfl,rfl,rfl,Sl.nil,b,S⟩
  intro s f w hI bb c au
  obtain ⟨ac,ai⟩:=s
  obtain ⟨l,o,aj,ak,al,ad,d,b,S⟩:=hI
  refine Ws<|Wg<|La' ad al<|We<|Ws ?_
  rcases condE c with ⟨ae,c⟩ | ⟨ae,c⟩
  ·refine CT ae<|Wk<|Ws<|Wb<|Ws<|Wg<|B c fun j av c=>W.idx (α:=GField) b ak ad el26 av ?_
   rintro bc _ aw rfl
   refine WL.w (R.loadHN (vs:=[(str j.fName),(str j.fValue)]) S rfl aw lay64 rfl rfl) ?_
   refine W.alloc [(str []),(str [])] S zer64 ?_
   intro bd be S
   refine W.store (i:=0) [(str j.fName),(str j.fValue)] S rfl rfl rfl lay64 rfl rfl (Nat.le_of_ble_eq_true rfl) rfl ?_
   intro bf S
   refine We<|Wg<|M' aj<|Fb ?_
   refine Lo 0 S<|W.bslice (α:=Str) [(str j.fValue)] ([j.fValue]:List Str) S el34 rfl rfl rfl (by decide) (Go.Eng.encS ⟨rfl,rfl⟩ enc0) ?_
   intro bg bh bi ax ay S
   have ⟨d,b⟩:=U2 ax d b
   refine B c fun bj az c=>W.app (α:=Str) (i:=2) S el34 rfl rfl rfl d ay az ?_
   intro a0 bk a1 a2 a3 S
   have ⟨d,b⟩:=U2 a2 d b
   refine A<|We<|Wg<|Lg' ad rfl<|M<|We ?_
   obtain rfl:=oi c
   exact ⟨rfl,⟨a1,a0,rfl,ak,al,rfl,a3,b,(S.pk [2])⟩⟩
  refine CF ae<|Wx ?_
  obtain rfl:=oi c
  obtain rfl:=au
  exact ⟨l,o,aj,d,S⟩
 rintro f w ⟨ab,q,a4,a5,S⟩
 refine Ws<|Wg<|M' a4<|A<|We ?_
 exact WP.ret (Rl h S a5)
theorem zKM {k:World} {l:Hp} (hw:Holds k l) (d:Int) (c:UInt8) {r:Int} (h:zHz d c=some r) :
  Ci Tryz.prog 153 [(int d),(byt c)] k l r:=by
 refine CM 21 Tryz.func153 hw fun S=>?_
 refine Ws<|Wg<|A<|We<|Ws<|Wb<|Ws<|Wg<|M<|Le<|A<|We ?_
 rcases condE h with ⟨f,h⟩ | ⟨f,h⟩
 ·refine CT f<|Ws<|Wg<|A<|We ?_
  exact WP.ret (Ri h S)
 refine CF f<|Ws<|Wg<|M<|Le<|M ?_
 refine WL.grp 3 [12,13] 14 (boo ((d==1)&&(c==92))) ?_ ?_
 ·rcases boolE (d==1) with b | b
  ·refine Gy b<|M<|Gy b<|Me c 92<|Pt b ?_
   exact We ⟨(andT b),ag,rfl⟩
  refine Gn b<|Gn b<|Pf b ?_
  exact We ⟨(andF b),ag,rfl⟩
 intro us
 refine A<|We ?_
 rcases condE h with ⟨i,h⟩ | ⟨i,h⟩
 ·refine CT i<|Ws<|Wg<|A<|We ?_
  exact WP.ret (Ri h S)
 refine CF i<|Ws<|Wg<|M<|Me c 34<|A<|We ?_
 rcases condE h with ⟨j,h⟩ | ⟨j,h⟩
 ·refine CT j<|Ws<|Wg<|M<|Lh<|A<|We ?_
  exact WP.ret (Ri h S)
 refine CF j<|Wk<|Ws<|Wg<|M<|A<|We ?_
 exact WP.ret (Ri h S)
theorem zJp {w0:World} {x:Hp} (hw:Holds w0 x) (t:Str) {r:(List Str)} (h:zGt t=some r) :
  Con Tryz.prog 126 [(str t)] w0 x (fun H' v=>Sl H' v r):=by
 refine CM 52 Tryz.func126 hw fun S=>?_
 refine Ws<|Wg<|A<|We<|Ws<|Wg<|A<|We<|Ws<|Wg<|A<|A ?_
 refine We<|Ws<|Ws<|Wg<|A<|We ?_
 have S:=S.addNil 9 1
 refine B h fun ai aq h=>WP.cut (fun f w=>∃ (aj:Hp) (ac:Value),f 3=ac∧Sl aj ac ai∧St w0 x w aj [.row ac 9 1 ai.length]) ?_ ?_
 ·refine Wb ?_
  refine WP.loopM (zAq t) (fun s f w=>match s with | (ad,ae,an,z)=>∃ (H1:Hp) (u:Value),f 0=(str t)∧f 3=u∧f 4=(int ae)∧f 5=(int an)∧f 6=(int z)∧Sl H1 u ad∧St w0 x w H1 [.row u 9 1 ad.length]) (([]:List Str),0,0,0) ai aq ?_ ?_
  ·exact ⟨x,.slice none 0 0,rfl,rfl,rfl,rfl,rfl,Sl.nil,S⟩
  intro s f w hI bh b ar
  obtain ⟨ad,ae,an,z⟩:=s
  obtain ⟨H1,u,o,h6,h8,ao,l,d,S⟩:=hI
  refine Ws<|Ws<|Wg<|M' l<|M' o<|Ns<|Lb<|M ?_
  refine WL.grp 4 [13,14,15] 16 (boo ((decide (z≤(t.length:Int)))&&(decide ((ad.length:Int)<64)))) ?_ ?_
  ·rcases boolE (decide (z≤(t.length:Int))) with k | k
   ·refine Gy k<|M' h6<|Gy k<|Nq d<|Gy k<|La<|Pt k ?_
    exact We ⟨(andT k),ag,rfl⟩
   refine Gn k<|Gn k<|Gn k<|Pf k ?_
   exact We ⟨(andF k),ag,rfl⟩
  intro us
  refine We ?_
  rcases condE b with ⟨ak,b⟩ | ⟨ak,b⟩
  ·refine CT ak<|Wk<|Ws<|Wb<|Ws<|Ws<|Wg<|M' l<|M' o<|Ns<|La<|M<|B b fun au p b=>WL.grp 9 [24,25,26,27,28,29,30,31] 32 (boo au) ?_ ?_
   ·rcases boolE (decide (z<(t.length:Int))) with c | c
    ·replace p:=condT p c
     refine Gy c<|M' h8<|Gy c<|Lf<|Gy c<|M<|B p fun av q p=>WL.grp 5 [27,28,29,30] 31 (boo av) ?_ ?_
     ·rcases boolE (ae !=0) with j | j
      ·replace q:=condT q j
       refine Gn j<|Gn j<|Gn j<|Gn j<|Gy c<|Pt j ?_
       exact We ⟨(ob q),ag,rfl⟩
      replace q:=condF q j
      refine Gy j<|M' o<|Gy j<|M' l<|Gy j<|B q fun aw ax q=>Ja ax<|Gy j<|Mf aw 44<|Gy c<|Pf j ?_
      exact We ⟨(ob q),ag,rfl⟩
     intro us
     refine Pt c ?_
     exact We ⟨(ob p),ag,rfl⟩
    replace p:=condF p c
    refine Gn c<|Gn c<|Gn c<|WL.gund rfl rfl<|WL.gund rfl rfl<|WL.gund rfl rfl<|WL.gund rfl rfl<|Gn c<|Pf c ?_
    exact We ⟨(ob p),ag,rfl⟩
   intro us
   refine We ?_
   rcases condE b with ⟨al,b⟩ | ⟨al,b⟩
   ·refine CT al<|Ws<|Wg<|M' h8<|M' o<|M' l<|B b fun ay az b=>Ja az<|B b fun bi a0 b=>W.call S rfl (zKM S.holds ae ay a0) ?_
    rintro bj bk a1 a2 S rfl
    have d:=d.up a2
    refine A<|We<|Wx<|Wg<|M' l<|Lg<|A<|We ?_
    obtain rfl:=oi b
    exact ⟨rfl,⟨a1,u,o,h6,rfl,ao,rfl,d,S⟩⟩
   refine CF al<|Wk<|Ws<|Ws<|Wg<|M' o<|M' ao<|M' l<|B b fun a3 a4 b=>Jb a4<|B b fun ap a5 b=>W.call S rfl (zEm S.holds a3 a5) ?_
   rintro bn bo a6 a7 S rfl
   have d:=d.up a7
   refine A<|We<|Ws<|Wg<|M<|Nb<|We ?_
   rcases condE b with ⟨am,b⟩ | ⟨am,b⟩
   ·refine CT am<|Wg<|M' h6<|M<|W.bslice (α:=Str) [(str ap)] ([ap]:List Str) S el34 rfl rfl rfl (by decide) (Go.Eng.encS ⟨rfl,rfl⟩ enc0) ?_
    intro bp bq br a8 a9 S
    have d:=d.up a8
    refine B b fun bs ba b=>W.app (α:=Str) (i:=1) S el34 rfl rfl rfl d a9 ba ?_
    intro bb bt bc bd be S
    have d:=d.up bd
    refine A<|We<|Wg<|M' l<|Lg<|A<|We<|Wg<|M' l<|Lg<|A<|We ?_
    obtain rfl:=oi b
    exact ⟨rfl,⟨bc,bb,o,rfl,h8,rfl,rfl,be,(S.pk [1])⟩⟩
   refine CF am<|Wk<|Wg<|M' l<|Lg<|A<|We<|Wg<|M' l<|Lg<|A<|We ?_
   obtain rfl:=oi b
   exact ⟨rfl,⟨a6,u,o,h6,h8,rfl,rfl,d,S⟩⟩
  refine CF ak<|Wx ?_
  obtain rfl:=oi b
  obtain rfl:=ar
  exact ⟨H1,u,h6,d,S⟩
 rintro f w ⟨aj,ac,bf,bg,S⟩
 refine Ws<|Wg<|M' bf<|A<|We ?_
 exact WP.ret (Rl h S bg)
theorem zHT {o:World} {j:Hp} (hw:Holds o j) (q:(List GField)) (t:Str) {ad:Value} (am:Sl j ad q) {r:(List Str)} (h:zF1 q t=some r) :
  Con Tryz.prog 98 [ad,(str t)] o j (fun H' v=>Sl H' v r):=by
 refine CM 26 Tryz.func98 hw fun S=>?_
 refine Ws<|Wg<|A<|We<|Ws<|Wg<|A<|We<|Ws<|Ws<|Wg<|M ?_
 refine M<|B h fun u an h=>W.call S rfl (zGS S.holds q t am an) ?_
 rintro v2 w3 H4 a7 S c
 refine Nq c<|M<|We ?_
 have S:=S.addNil 9 1
 refine B h fun x ap h=>WP.cut (fun f w=>∃ (z:Hp) (p:Value),f 5=p∧Sl z p x∧St o j w z [.row p 9 1 x.length]) ?_ ?_
 ·refine Wb ?_
  refine WP.loopM (zFH u) (fun s f w=>match s with | (aa,af)=>∃ (k:Hp) (l:Value),f 5=l∧f 10=v2∧f 11=(int (u.length:Int))∧f 12=(int af)∧Sl k l aa∧Sl k v2 u∧St o j w k [.row l 9 1 aa.length]) (([]:List Str),0) x ap ?_ ?_
  ·exact ⟨H4,.slice none 0 0,rfl,rfl,rfl,rfl,Sl.nil,c,S⟩
  intro s f w hI a8 b aq
  obtain ⟨aa,af⟩:=s
  obtain ⟨k,l,ah,ai,aj,ab,d,c,S⟩:=hI
  refine Ws<|Wg<|La' ab aj<|We<|Ws ?_
  rcases condE b with ⟨ac,b⟩ | ⟨ac,b⟩
  ·refine CT ac<|Wk<|Ws<|Wb<|Ws<|Wg<|B b fun ar au b=>W.idx (α:=Str) c ai ab el34 au ?_
   rintro a9 _ av rfl
   refine Lq S av<|A<|We<|Wg<|M' ah<|M<|B b fun ba aw b=>W.call S rfl (zJp S.holds ar aw) ?_
   rintro bb bc bd ax S ay
   have ⟨d,c⟩:=U2 ax d c
   refine B b fun be az b=>W.app (α:=Str) (i:=0) S el34 rfl rfl rfl d ay az ?_
   intro a0 bf a1 a2 a3 S
   have ⟨d,c⟩:=U2 a2 d c
   refine A<|We<|Wg<|Lg' ab rfl<|M<|We ?_
   obtain rfl:=oi b
   exact ⟨rfl,⟨a1,a0,rfl,ai,aj,rfl,a3,c,S⟩⟩
  refine CF ac<|Wx ?_
  obtain rfl:=oi b
  obtain rfl:=aq
  exact ⟨k,l,ah,d,S⟩
 rintro f w ⟨z,p,ak,al,S⟩
 refine Ws<|Wg<|M' ak<|M' ak<|Nq al<|Ni<|B h fun bg a4 h=>W.subHi (α:=Str) al rfl rfl el34 a4 ?_
 intro bh a5
 refine A<|We ?_
 exact WP.ret (Rl h S a5)
theorem zIM {d:World} {b:Hp} (hw:Holds d b) (c:(List Str)) {f:Value} (i:Sl b f c) {r:Str} (h:zFf c=some r) :
  Cs Tryz.prog 140 [f] d b r:=by
 refine CM 5 Tryz.func140 hw fun S=>?_
 refine Ws<|Wg<|A<|We<|Ws<|Wg<|M<|B h fun k j h=>W.call S rfl (zGZ S.holds c [44,32] i j) ?_
 rintro l o p q S rfl
 refine A<|We ?_
 exact WP.ret (Rs h S)
theorem zJ8 {o:World} {j:Hp} (hw:Holds o j) (d:Str) (f:(List GField)) {p:Value} (b:Sl j p f) {r:Str} (h:zG1 d f=some r) :
  Cs Tryz.prog 107 [(str d),p] o j r:=by
 refine CM 30 Tryz.func107 hw fun S=>?_
 refine Ws<|Wg<|A<|We<|Ws<|Ws<|Wg<|M<|M<|B h fun r1 u h=>W.call S rfl (zGQ S.holds f d b u) ?_
 rintro v2 w3 H4 v S rfl
 have b:=b.up v
 refine No<|We ?_
 rcases condE h with ⟨k,h⟩ | ⟨k,h⟩
 ·refine CT k<|Ws<|Wg<|A<|We ?_
  exact WP.ret (Rs h S)
 refine CF k<|Wk<|Ws<|Ws<|Wg<|M<|M<|B h fun q x h=>W.call S rfl (zHT S.holds f d b x) ?_
 rintro v8 w9 aw z S i
 have b:=b.up z
 refine A<|We<|Ws<|Wg<|M<|B h fun t aa h=>W.call S rfl (zFc S.holds d aa) ?_
 rintro ax ay az ab S rfl
 have ⟨b,i⟩:=U2 ab b i
 refine Lf<|M ?_
 refine WL.grp 4 [17,18,19] 20 (boo ((t !=0)&&(decide ((q.length:Int)<64)))) ?_ ?_
 ·rcases boolE (t !=0) with c | c
  ·refine Gy c<|M<|Gy c<|Nq i<|Gy c<|La<|Pt c ?_
   exact We ⟨(andT c),ag,rfl⟩
  refine Gn c<|Gn c<|Gn c<|Pf c ?_
  exact We ⟨(andF c),ag,rfl⟩
 intro us
 refine We ?_
 rcases condE h with ⟨l,h⟩ | ⟨l,h⟩
 ·refine CT l<|Ws<|Wg<|M<|B h fun ac ad h=>W.call S rfl (zIM S.holds q i ad) ?_
  rintro a0 a1 a2 ae S rfl
  have b:=b.up ae
  refine B h fun a3 af h=>W.call S rfl (zAe S.holds ac af) ?_
  rintro a4 a5 a6 ah S rfl
  have b:=b.up ah
  refine B h fun a7 ai h=>Je ai<|A<|We ?_
  exact WP.ret (Rs h S)
 refine CF l<|Wk<|Ws<|Wg<|M<|M<|B h fun aj ak h=>W.call S rfl (zGS S.holds f d b ak) ?_
 rintro a8 a9 ba bb S al
 refine B h fun bc am h=>W.call S rfl (zGZ S.holds aj [44,32] al am) ?_
 rintro bd be bf bg S rfl
 refine B h fun bh an h=>Je an<|A<|We ?_
 exact WP.ret (Rs h S)
theorem zIY {t:World} {k:Hp} (hw:Holds t k) (o:(List Str)) (p:(List GField)) {u:Value} {x:Value} (b:Sl k u o) (d:Sl k x p) {r:(List Str)} (h:zEq o p=some r) :
  Con Tryz.prog 70 [u,x] t k (fun H' v=>Sl H' v r):=by
 refine CM 22 Tryz.func70 hw fun S=>?_
 refine Ws<|Wg<|A<|We<|Ws<|Wg<|A<|We<|Ws<|Ws<|Wg<|M ?_
 refine Nq b<|M<|We ?_
 have S:=S.addNil 9 1
 refine B h fun aa am h=>WP.cut (fun f w=>∃ (ab:Hp) (z:Value),f 5=z∧Sl ab z aa∧St t k w ab [.row z 9 1 aa.length]) ?_ ?_
 ·refine Wb ?_
  refine WP.loopM (zCF o p) (fun s f w=>match s with | (ac,af)=>∃ (l:Hp) (q:Value),f 1=x∧f 5=q∧f 8=u∧f 9=(int (o.length:Int))∧f 10=(int af)∧Sl l x p∧Sl l q ac∧Sl l u o∧St t k w l [.row q 9 1 ac.length]) (([]:List Str),0) aa am ?_ ?_
  ·exact ⟨k,.slice none 0 0,rfl,rfl,rfl,rfl,rfl,d,Sl.nil,b,S⟩
  intro s f w hI a4 c an
  obtain ⟨ac,af⟩:=s
  obtain ⟨l,q,h2,h6,h7,h8,ad,d,j,b,S⟩:=hI
  refine Ws<|Wg<|La' ad h8<|We<|Ws ?_
  rcases condE c with ⟨ae,c⟩ | ⟨ae,c⟩
  ·refine CT ae<|Wk<|Ws<|Wb<|Ws<|Wg<|B c fun ao ap c=>W.idx (α:=Str) b h7 ad el34 ap ?_
   rintro a5 _ aq rfl
   refine Lq S aq<|A<|We<|Wg<|M' h6<|M<|M' h2<|B c fun al ar c=>W.call S rfl (zJ8 S.holds ao p d ar) ?_
   rintro a6 a7 a8 au S rfl
   have ⟨d,j,b⟩:=U3 au d j b
   refine W.bslice (α:=Str) [(str al)] ([al]:List Str) S el34 rfl rfl rfl (by decide) (Go.Eng.encS ⟨rfl,rfl⟩ enc0) ?_
   intro a9 ba bb av aw S
   have ⟨d,j,b⟩:=U3 av d j b
   refine B c fun bc ax c=>W.app (α:=Str) (i:=1) S el34 rfl rfl rfl j aw ax ?_
   intro ay bd az a0 a1 S
   have ⟨d,j,b⟩:=U3 a0 d j b
   refine A<|We<|Wg<|Lg' ad rfl<|M<|We ?_
   obtain rfl:=oi c
   exact ⟨rfl,⟨az,ay,h2,rfl,h7,h8,rfl,d,a1,b,(S.pk [1])⟩⟩
  refine CF ae<|Wx ?_
  obtain rfl:=oi c
  obtain rfl:=an
  exact ⟨l,q,h6,j,S⟩
 rintro f w ⟨ab,z,a2,a3,S⟩
 refine Ws<|Wg<|M' a2<|A<|We ?_
 exact WP.ret (Rl h S a3)
theorem zJf {k:World} {d:Hp} (hw:Holds k d) (f:(List Str)) (i:(List Str)) (l:(List GField)) {o:Value} {p:Value} {q:Value} (t:Sl d o f) (j:Sl d p i) (v:Sl d q l) {r:Bool} (h:zGq f i l=some r) :
  Cb Tryz.prog 36 [o,p,q] k d r:=by
 refine CM 19 Tryz.func36 hw fun S=>?_
 refine Ws<|Wg<|A<|We<|Ws<|Wg<|M<|Nq t<|M<|Nq j<|Le<|M<|B h fun x c h=>WL.grpw 6 [13,14,15,16,17] 18 (boo x) (fun w=>∃ H':Hp,d.le H'∧St k d w H' []) ?_ ?_
 ·rcases boolE ((f.length:Int)==(i.length:Int)) with b | b
  ·replace c:=condT c b
   refine Gy b<|M<|Gy b<|M<|Gy b<|B c fun z aa c=>W.call S rfl (zIY S.holds f l t v aa) ?_
   rintro v4 w5 H6 u S R8
   have j:=j.up u
   refine Gy b<|M<|Gy b<|B c fun r9 ac c=>W.call S rfl (zAt S.holds z i R8 j ac) ?_
   rintro ak al ad ae S rfl
   refine Pt b ?_
   exact We ⟨(ob c),ag,⟨ad,(u.trans ae),S⟩⟩
  replace c:=condF c b
  refine Gn b<|Gn b<|Gn b<|Gn b<|Gn b<|Pf b ?_
  exact We ⟨(ob c),ag,⟨d,lr,S⟩⟩
 intro us am ⟨an,ao,S⟩
 refine A<|We ?_
 exact WP.ret (Rb h S)
theorem zJG {l:World} {c:Hp} (hw:Holds l c) (b:GEntry) (d:(List GField)) {f:Value} {i:Value} {j:Value} {k:Value} {o:Value} {p:Addr} (z:Sl c f b.fKeys) (q:Sl c i b.fVary) (t:Sl c j b.fSnapshot) (aa:Sl c k b.fFields) (u:At c p [o]) (v:Sl c o d) {r:Bool} (h:zFW b d=some r) :
  Cb Tryz.prog 35 [(agg [f,i,j,(str b.fReason),k,(str b.fBody),(int b.fRequested),(int b.fReceived)]),(.pointer (some p))] l c r:=by
 refine CM 10 Tryz.func35 hw fun S=>?_
 refine Ws<|Wg ?_
 refine W.box [f,i,j,(str b.fReason),k,(str b.fBody),(int b.fRequested),(int b.fReceived)] S rfl rfl ?_
 intro b1 w2 S
 refine A<|We<|Ws<|Wg<|Fb ?_
 refine Lo 0 S<|Fb ?_
 refine Lo 0 S ?_
 refine Lq S u<|B h fun r3 x h=>W.call S rfl (zJf S.holds b.fVary b.fSnapshot d q t v x) ?_
 rintro v4 w5 H6 ai S rfl
 refine A<|We ?_
 exact WP.ret (Rb h S)
theorem zIW {c:World} {d:Hp} (hw:Holds c d) (b:GParam) {r:Bool} (h:zB7 b=some r) :
  Cb Tryz.prog 217 [(agg [(str b.fName),(str b.fValue)])] c d r:=by
 refine CM 6 Tryz.func217 hw fun S=>?_
 refine Ws<|Wg ?_
 refine W.box [(str b.fName),(str b.fValue)] S rfl rfl ?_
 intro f i S
 refine A<|We<|Ws<|Wg<|Fb ?_
 refine Lo 0 S<|Na<|A<|We ?_
 exact WP.ret (Rb h S)
theorem zIr {w0:World} {H0:Hp} (hw:Holds w0 H0) (p:Str) {r:(Int×Bool)} (h:zBe p=some r) :
  Con Tryz.prog 218 [(str p)] w0 H0 (fun H' v=>v=(.tuple ⟨[(int r.1),(boo r.2)]⟩)):=by
 refine CM 70 Tryz.func218 hw fun S=>?_
 refine Ws<|Wg<|A<|A<|We<|Ws<|Ws<|Wg<|M<|Na<|M ?_
 refine WL.grp 4 [11,12,13] 14 (boo ((p==[])||(decide (5<(p.length:Int))))) ?_ ?_
 ·rcases boolE (p==[]) with k | k
  ·refine Gn k<|Gn k<|Gn k<|Pt k ?_
   exact We ⟨(orT k),ag,rfl⟩
  refine Gy k<|M<|Gy k<|Ns<|Gy k<|Lc<|Pf k ?_
  exact We ⟨(orF k),ag,rfl⟩
 intro us
 refine M<|B h fun au q h=>WL.grp 9 [16,17,18,19,20,21,22,23] 24 (boo au) ?_ ?_
 ·rcases boolE ((p==[])||(decide (5<(p.length:Int)))) with c | c
  ·replace q:=condT q c
   refine Gn c<|Gn c<|Gn c<|Gn c<|WL.gund rfl rfl<|WL.gund rfl rfl<|WL.gund rfl rfl<|Gn c<|Pt c ?_
   exact We ⟨(ob q),ag,rfl⟩
  replace q:=condF q c
  refine Gy c<|M<|Gy c<|B q fun c5 a5 q=>Ja a5<|Gy c<|Mf c5 48<|Gy c<|M<|B q fun b9 t q=>WL.grp 4 [20,21,22] 23 (boo b9) ?_ ?_
  ·rcases boolE (c5 !=48) with l | l
   ·replace t:=condT t l
    refine Gy l<|M<|Gy l<|B t fun c8 a8 t=>Ja a8<|Gy l<|Mf c8 49<|Gy c<|Pt l ?_
    exact We ⟨(ob t),ag,rfl⟩
   replace t:=condF t l
   refine Gn l<|Gn l<|Gn l<|Gy c<|Pf l ?_
   exact We ⟨(ob t),ag,rfl⟩
  intro us
  refine Pf c ?_
  exact We ⟨(ob q),ag,rfl⟩
 intro us
 refine M<|B h fun a9 u h=>WL.grp 9 [26,27,28,29,30,31,32,33] 34 (boo a9) ?_ ?_
 ·rcases boolE au with d | d
  ·replace u:=condT u d
   refine Gn d<|Gn d<|Gn d<|Gn d<|WL.gund rfl rfl<|WL.gund rfl rfl<|WL.gund rfl rfl<|Gn d<|Pt d ?_
   exact We ⟨(ob u),ag,rfl⟩
  replace u:=condF u d
  refine Gy d<|M<|Gy d<|Ns<|Gy d<|Lc<|Gy d<|M<|B u fun ba x u=>WL.grp 4 [30,31,32] 33 (boo ba) ?_ ?_
  ·rcases boolE (decide (1<(p.length:Int))) with o | o
   ·replace x:=condT x o
    refine Gy o<|M<|Gy o<|B x fun bb bc x=>Ja bc<|Gy o<|Mf bb 46<|Gy d<|Pt o ?_
    exact We ⟨(ob x),ag,rfl⟩
   replace x:=condF x o
   refine Gn o<|Gn o<|Gn o<|Gy d<|Pf o ?_
   exact We ⟨(ob x),ag,rfl⟩
  intro us
  refine Pf d ?_
  exact We ⟨(ob u),ag,rfl⟩
 intro us
 refine We ?_
 rcases condE h with ⟨ah,h⟩ | ⟨ah,h⟩
 ·refine CT ah<|Ws<|Wg<|A<|A<|We ?_
  obtain rfl:=oi h
  refine WP.ret (Out.two rfl S rfl rfl ?_)
  exact rfl
 refine CF ah<|Wk<|Ws<|Wg ?_
 refine WL.w (R.buildArr [(0,(int 1000)),(1,(int 0)),(2,(int 100)),(3,(int 10)),(4,(int 1))] [(int 1000),(int 0),(int 100),(int 10),(int 1)] Tryz.underlying236 lay3 zOe rfl rfl) ?_
 refine W.alloc [(int 0),(int 0),(int 0),(int 0),(int 0)] S zOe ?_
 intro bd br S
 refine W.store (i:=0) [(int 1000),(int 0),(int 100),(int 10),(int 1)] S rfl rfl rfl zOc rfl rfl (Nat.le_of_ble_eq_true rfl) rfl ?_
 intro bs S
 refine We<|Ws<|Wg<|A<|We<|Ws<|Ws<|Wg<|M<|Ns ?_
 obtain ⟨ai,bt,be,_,S⟩:=S.settle (i:=0) rfl
 replace S:St w0 H0 _ ai []:=S
 have bf:At ai ⟨bd,0,none⟩ [(int 1000),(int 0),(int 100),(int 10),(int 1)]:=⟨_,_,rfl,be,[],by simp⟩
 refine B h fun aj bg h=>W.arrHi (α:=Int) bf (Cells.ints (xs:=([1000,0,100,10,1]:List Int))) rfl rfl Tryz.underlying236 inf3 rfl (by decide) bg ?_
 intro aw aa
 refine Nq aa<|M<|We<|B h fun ak bh h=>WP.cut (fun f w=>match ak with | .inl ax=>∃ (ay:Hp),f 5=(int ax)∧St w0 H0 w ay [] | .inr _=>False) ?_ ?_
 ·refine Wb ?_
  refine WP.loopM (zAj p aj) (fun s f w=>match s with | (az,a0)=>∃ (ab:Hp),f 0=(str p)∧f 5=(int az)∧f 38=aw∧f 39=(int (aj.length:Int))∧f 40=(int a0)∧Sl ab aw aj∧St w0 H0 w ab []) (0,0) ak bh ?_ ?_
  ·exact ⟨ai,rfl,rfl,rfl,rfl,rfl,aa,S⟩
  intro s f w hI bu b a1
  obtain ⟨az,a0⟩:=s
  obtain ⟨ab,ae,al,am,an,af,aa,S⟩:=hI
  refine Ws<|Wg<|La' af an<|We<|Ws ?_
  rcases condE b with ⟨ao,b⟩ | ⟨ao,b⟩
  ·refine CT ao<|Wk<|Ws<|Wb<|Ws<|Wg<|M' af<|B b fun bv bi b=>W.idx (α:=Int) aa am af el118 bi ?_
   rintro bw _ bj rfl
   refine Lq S bj<|A<|A<|We<|Ws<|Ws<|Wg<|M<|Le<|We ?_
   rcases condE b with ⟨ap,b⟩ | ⟨ap,b⟩
   ·refine CT ap<|Wx<|Wg<|Lg' af rfl<|M<|We ?_
    obtain rfl:=oi b
    exact ⟨rfl,⟨ab,ae,al,am,an,rfl,aa,S⟩⟩
   refine CF ap<|Wk<|Ws<|Ws<|Wg<|M' ae<|M<|B b fun a2 bk b=>Ja bk<|Ma a2 48<|M<|B b fun bn z b=>WL.grp 5 [52,53,54,55] 56 (boo bn) ?_ ?_
   ·rcases boolE (decide (a2<48)) with j | j
    ·replace z:=condT z j
     refine Gn j<|Gn j<|Gn j<|Gn j<|Pt j ?_
     exact We ⟨(ob z),ag,rfl⟩
    replace z:=condF z j
    refine Gy j<|M' ae<|Gy j<|M<|Gy j<|B z fun bo bp z=>Ja bp<|Gy j<|Mc bo 57<|Pf j ?_
    exact We ⟨(ob z),ag,rfl⟩
   intro us
   refine We ?_
   rcases condE b with ⟨aq,b⟩ | ⟨aq,b⟩
   ·refine CT aq<|Ws<|Wg<|A<|A<|We ?_
    obtain rfl:=oi b
    obtain rfl:=a1
    obtain rfl:=oi h
    refine WP.ret (Out.two rfl S rfl rfl ?_)
    exact rfl
   refine CF aq<|Wk<|Wg<|M' al<|M<|M' ae<|M<|B b fun a3 bq b=>Ja bq<|Mh a3 48 ?_
   refine WL.w (R.i64of8 (a:=a3 - 48) rfl Tryz.underlying5 Tryz.underlying3)<|Li<|Lg<|A<|We<|Wg<|Lg' af rfl<|M<|We ?_
   obtain rfl:=oi b
   exact ⟨rfl,⟨ab,ae,rfl,am,an,rfl,aa,S⟩⟩
  refine CF ao<|Wx ?_
  obtain rfl:=oi b
  obtain rfl:=a1
  exact ⟨ab,al,S⟩
 intro f w hM
 rcases ak with ax | e
 ·obtain ⟨ay,a4,S⟩:=hM
  refine Ws<|Ws<|Wg<|M' a4<|Lc<|We ?_
  rcases condE h with ⟨ar,h⟩ | ⟨ar,h⟩
  ·refine CT ar<|Ws<|Wg<|A<|A<|We ?_
   obtain rfl:=oi h
   refine WP.ret (Out.two rfl S rfl rfl ?_)
   exact rfl
  refine CF ar<|Wk<|Ws<|Wg<|M' a4<|A<|A<|We ?_
  obtain rfl:=oi h
  refine WP.ret (Out.two rfl S rfl rfl ?_)
  exact rfl
 exact hM.elim
theorem zJJ {p:World} {q:Hp} (hw:Holds p q) (j:Str) {r:Str} (h:zHY j=some r) :
  Cs Tryz.prog 265 [(str j)] p q r:=by
 refine CM 35 Tryz.func265 hw fun S=>?_
 refine Ws<|Wg<|A<|We<|Ws<|Wg<|W.bslice (α:=UInt8) [(byt 34)] ([34]:List UInt8) S el128 rfl rfl rfl (by decide) (Go.Eng.encS ⟨rfl,rfl⟩ enc0) ?_
 intro u1 w2 H3 br R5 S
 refine A<|We<|Ws<|Ws<|Wg<|M<|Ns<|M<|We<|B h fun ab av h=>WP.cut (fun f w=>∃ (ac:Hp) (u:Value),f 3=u∧Sl ac u ab∧St p q w ac [.row u 5 1 ab.length]) ?_ ?_
 ·refine Wb ?_
  refine WP.loopM (zHF j) (fun s f w=>match s with | (ad,v)=>∃ (t:Hp) (o:Value),f 0=(str j)∧f 3=o∧f 7=(int (j.length:Int))∧f 8=(int v)∧Sl t o ad∧St p q w t [.row o 5 1 ad.length]) (([34]:List UInt8),0) ab av ?_ ?_
  ·exact ⟨H3,u1,rfl,rfl,rfl,rfl,R5,S⟩
  intro s f w hI bs b aw
  obtain ⟨ad,v⟩:=s
  obtain ⟨t,o,x,ae,af,z,k,S⟩:=hI
  refine Ws<|Wg<|La' z af<|We<|Ws ?_
  rcases condE b with ⟨ah,b⟩ | ⟨ah,b⟩
  ·refine CT ah<|Wk<|Ws<|Wb<|Ws<|Wg<|M' z<|A<|We<|Ws<|Ws<|Wg ?_
   refine M' x<|M<|B b fun am ax b=>Ja ax<|Me am 34<|M<|B b fun ay d b=>WL.grp 5 [16,17,18,19] 20 (boo ay) ?_ ?_
   ·rcases boolE (am==34) with c | c
    ·replace d:=condT d c
     refine Gn c<|Gn c<|Gn c<|Gn c<|Pt c ?_
     exact We ⟨(ob d),ag,rfl⟩
    replace d:=condF d c
    refine Gy c<|M' x<|Gy c<|M<|Gy c<|B d fun az a0 d=>Ja a0<|Gy c<|Me az 92<|Pf c ?_
    exact We ⟨(ob d),ag,rfl⟩
   intro us
   refine We<|B b fun an l b=>WP.cut (fun f w=>∃ (ai:Hp) (aa:Value),f 0=(str j)∧f 3=aa∧f 4=(int v)∧f 7=(int (j.length:Int))∧f 8=(int v)∧Sl ai aa an∧St p q w ai [.row aa 5 1 an.length]) ?_ ?_
   ·rcases condE l with ⟨aj,l⟩ | ⟨aj,l⟩
    ·refine CT aj<|Wg<|M' ae<|W.bslice (α:=UInt8) [(byt 92)] ([92]:List UInt8) S el128 rfl rfl rfl (by decide) (Go.Eng.encS ⟨rfl,rfl⟩ enc0) ?_
     intro bt bu bv a1 a2 S
     have k:=k.up a1
     refine B l fun bw a3 l=>W.app (α:=UInt8) (i:=1) S el128 rfl rfl rfl k a2 a3 ?_
     intro a4 bx a5 a6 a7 S
     have k:=k.up a6
     refine A<|We ?_
     obtain rfl:=oi l
     exact ⟨a5,a4,x,rfl,rfl,af,z,a7,(S.pk [1])⟩
    refine CF aj<|Wk ?_
    obtain rfl:=oi l
    exact ⟨t,o,x,ae,rfl,af,z,k,S⟩
   rintro f w ⟨ai,aa,ao,a8,a9,ba,bb,ak,S⟩
   refine Wg<|M' a8<|M' ao<|M' a9<|B b fun ap bc b=>Ja bc<|W.bslice (α:=UInt8) [(byt ap)] ([ap]:List UInt8) S el128 rfl rfl rfl (by decide) (Go.Eng.encS ⟨rfl,rfl⟩ enc0) ?_
   intro bz b0 b1 bd be S
   have ak:=ak.up bd
   refine B b fun b2 bf b=>W.app (α:=UInt8) (i:=1) S el128 rfl rfl rfl ak be bf ?_
   intro bg b3 bh b4 bi S
   refine A<|We<|Wg<|Lg' bb rfl<|M<|We ?_
   obtain rfl:=oi b
   exact ⟨rfl,⟨bh,bg,ao,rfl,ba,rfl,bi,(S.pk [1])⟩⟩
  refine CF ah<|Wx ?_
  obtain rfl:=oi b
  obtain rfl:=aw
  exact ⟨t,o,ae,k,S⟩
 rintro f w ⟨ac,u,bj,al,S⟩
 refine Ws<|Wg<|M' bj<|W.bslice (α:=UInt8) [(byt 34)] ([34]:List UInt8) S el128 rfl rfl rfl (by decide) (Go.Eng.encS ⟨rfl,rfl⟩ enc0) ?_
 intro b5 b6 b7 bk bn S
 have al:=al.up bk
 refine B h fun b8 bo h=>W.app (α:=UInt8) (i:=1) S el128 rfl rfl rfl al bn bo ?_
 intro b9 ca cb cc bp S
 refine WL.w (R.strL S bp rfl Tryz.underlying128 Tryz.underlying9 Tryz.underlying5)<|A<|We ?_
 exact WP.ret (Rs h S)
theorem zDU {j ws:World} {k Hs:Hp} {l:List Ent} (s0_buf:(List UInt8)) {d:Value} {c:Nat} (S:St j k ws Hs (.box c 186 [(.pointer none),d] :: .row d 5 1 s0_buf.length :: l)) (R0_1:Sl Hs d s0_buf) {r:Unit} (h:zEY s0_buf=some r) :
  ConS Tryz.prog 213 [(ptr c 0)] j k ws Hs l (fun H' v L'=>∃ f:Value,L'=[.box c 186 [(ptr c 0),f],.row f 5 1 s0_buf.length]∧v=(.tuple #[])∧Sl H' f s0_buf):=by
 refine ConS.mk (N:=20) Tryz.func213 rfl rfl kr rfl<|Ws<|Wg<|M<|Nn<|Fb ?_
 refine Lo 0 S ?_
 refine WL.w (v:=boo true) (R.ofEq (R.eqlPN rfl rfl Tryz.underlying184) rfl)<|We<|WP.condT (b:=true) rfl rfl<|Wg<|M ?_
 refine M ?_
 refine WL.w (R.toUnsafe (i:=0) S rfl rfl Tryz.underlying184 Tryz.underlying232 zOb (by decide) (by simp))<|W.noEscape Tryz.func239 rfl rfl kr kr rfl ?_
 refine WL.w (R.fromUnsafe (i:=0) S rfl rfl Tryz.underlying232 Tryz.underlying184 zOh zPg (by simp))<|Nn<|Fb ?_
 refine W.store (i:=0) [(ptr c 0),d] S rfl rfl rfl zOi rfl rfl (Nat.le_of_ble_eq_true rfl) rfl ?_
 intro o S
 refine We ?_
 obtain rfl:=oi h
 refine (OutS.zero (L':=[.box c 186 [(ptr c 0),d],.row d 5 1 s0_buf.length]) (.inr rfl) rfl lr S ?_)
 exact ⟨_,rfl,rfl,R0_1⟩
theorem zDK {i ws:World} {j Hs:Hp} {k:List Ent} (s0_buf:(List UInt8)) {d:Value} {c:Nat} (S:St i j ws Hs (.box c 186 [(ptr c 0),d] :: .row d 5 1 s0_buf.length :: k)) (R0_1:Sl Hs d s0_buf) {r:Unit} (h:zD7 s0_buf=some r) :
  ConS Tryz.prog 213 [(ptr c 0)] i j ws Hs k (fun H' v L'=>∃ f:Value,L'=[.box c 186 [(ptr c 0),f],.row f 5 1 s0_buf.length]∧v=(.tuple #[])∧Sl H' f s0_buf):=by
 refine ConS.mk (N:=20) Tryz.func213 rfl rfl kr rfl<|Ws<|Wg<|M<|Nn<|Fb ?_
 refine Lo 0 S ?_
 refine WL.w (v:=boo false) (R.ofEq (R.eqlPN rfl rfl Tryz.underlying184) rfl)<|We<|WP.condF (b:=false) rfl rfl<|Ws<|Wg ?_
 refine M<|Nn<|Fb ?_
 refine Lo 0 S<|M ?_
 refine WL.w (R.neqPS rfl rfl Tryz.underlying184 zOh)<|We<|WP.condF (b:=false) rfl rfl<|Wk ?_
 obtain rfl:=oi h
 refine (OutS.zero (L':=[.box c 186 [(ptr c 0),d],.row d 5 1 s0_buf.length]) (.inr rfl) rfl lr S ?_)
 exact ⟨_,rfl,rfl,R0_1⟩
theorem zCu {l ws:World} {o Hs:Hp} {p:List Ent} (s0_buf:List UInt8) {c va0:Value} {b:Nat} (S:St l o ws Hs (.box b 186 [va0,c] :: .row c 5 1 s0_buf.length :: p)) (R0_1:Sl Hs c s0_buf) (q:va0=Value.pointer none∨va0=ptr b 0) {r:Unit} (h:zAw s0_buf=some r) :
  ConS Tryz.prog 213 [(ptr b 0)] l o ws Hs p (fun H' v L'=>∃ d f:Value,L'=[.box b 186 [d,f],.row f 5 1 s0_buf.length]∧v=(.tuple #[])∧(d=Value.pointer none∨d=ptr b 0)∧Sl H' f s0_buf):=by
 rcases q with rfl | rfl
 ·exact ConS.mono (zDU s0_buf S R0_1 rfl) fun H' v L' ⟨u,i,j,k⟩=>⟨_,u,i,j,.inr rfl,k⟩
 exact ConS.mono (zDK s0_buf S R0_1 rfl) fun H' v L' ⟨u,i,j,k⟩=>⟨_,u,i,j,.inr rfl,k⟩
theorem zAZ {d ws:World} {f Hs:Hp} {j:List Ent} (q:Str) (s0_buf:(List UInt8)) {c:Value} {va0:Value} {b:Nat} (S:St d f ws Hs (.box b 186 [va0,c] :: .row c 5 1 s0_buf.length :: j)) (R0_1:Sl Hs c s0_buf) (x:va0=Value.pointer none∨va0=ptr b 0) {r:(Int×Unit×(List UInt8))} (h:zAN q s0_buf=some r) :
  ConS Tryz.prog 180 [(ptr b 0),(str q)] d f ws Hs j (fun H' v L'=>∃ k l:Value,L'=[.box b 186 [k,l],.row l 5 1 r.2.2.length]∧v=(.tuple ⟨[(int r.1),.nilIface]⟩)∧(k=Value.pointer none∨k=ptr b 0)∧Sl H' l r.2.2):=by
 refine ConS.mk (N:=19) Tryz.func180 rfl rfl kr rfl<|Ws<|Wg<|A<|A<|We<|Ws<|Wg<|M ?_
 replace S:=S.front 1 rfl
 replace S:=S.front 1 rfl
 replace S:St d f _ Hs (.box b 186 [va0,c] :: .row c 5 1 s0_buf.length :: j):=S
 refine B h fun r1 z h=>W.callS rfl (zCu s0_buf S R0_1 x z) ?_
 rintro v2 w3 H4 L6 ab S ⟨o,t,rfl,rfl,ac,ad⟩
 replace S:St d f _ H4 (.box b 186 [o,t] :: .row t 5 1 s0_buf.length :: j):=S
 refine We<|Ws<|Wg<|M<|M<|Nn<|Fb ?_
 refine Lo 0 S<|M<|B h fun ae af h=>W.appStr (i:=1) S el128 Tryz.underlying9 rfl rfl rfl ad af ?_
 intro p am an ah u S
 refine Nn<|Fb ?_
 refine W.storeSl (α:=UInt8) (i:=0) [o,p] S u rfl rfl rfl zOg (Nat.le_of_ble_eq_true rfl) rfl ?_
 intro ao S
 refine We<|Ws<|Wg<|M<|Ns<|A<|A<|We ?_
 obtain rfl:=oi h
 refine WP.ret (OutS.two (L':=[.box b 186 [o,p],.row p 5 1 ae.length]) rfl (ab.trans ah) S rfl rfl ?_)
 exact ⟨_,_,rfl,rfl,ac,u⟩
end Go.Proofs
