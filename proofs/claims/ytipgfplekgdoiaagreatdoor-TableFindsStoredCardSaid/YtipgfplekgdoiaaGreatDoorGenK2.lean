/- A part. -/
import Derived.Test.YtipgfplekgdoiaaGreatDoorEng38
import Derived.Test.YtipgfplekgdoiaaGreatDoorEng33
import Derived.Test.YtipgfplekgdoiaaGreatDoorGenK1
namespace Go.Proofs
set_option maxHeartbeats 4000000
set_option maxRecDepth 10000
open Go.Eng Go.Eng.Pure
set_option linter.unusedVariables false
theorem zJ7 {o:World} {p:Hp} (hw:Holds o p) (k:Str) (c:Str) {r:Str} (h:zHa k c=some r) :
  Cs Tryz.prog 197 [(str k),(str c)] o p r:=by
 refine CM 43 Tryz.func197 hw fun S=>?_
 refine Ws<|Wg<|A<|We<|Ws<|Ws<|Wg<|M<|Na<|M ?_
 refine WL.grp 3 [10,11] 12 (boo ((k==[])||(c==[]))) ?_ ?_
 ·rcases boolE (k==[]) with f | f
  ·refine Gn f<|Gn f<|Pt f ?_
   exact We ⟨(orT f),ag,rfl⟩
  refine Gy f<|M<|Gy f<|Na<|Pf f ?_
  exact We ⟨(orF f),ag,rfl⟩
 intro us
 refine We ?_
 rcases condE h with ⟨q,h⟩ | ⟨q,h⟩
 ·refine CT q<|Ws<|Wg<|M<|A<|We ?_
  exact WP.ret (Rs h S)
 refine CF q<|Wk<|Ws<|Ws<|Wg<|M<|Ns<|Le<|M<|B h fun z j h=>WL.grp 4 [18,19,20] 21 (boo z) ?_ ?_
 ·rcases boolE ((c.length:Int)==1) with d | d
  ·replace j:=condT j d
   refine Gy d<|M<|Gy d<|B j fun c6 ab j=>Ja ab<|Gy d<|Ma c6 128<|Pt d ?_
   exact We ⟨(ob j),ag,rfl⟩
  replace j:=condF j d
  refine Gn d<|Gn d<|Gn d<|Pf d ?_
  exact We ⟨(ob j),ag,rfl⟩
 intro us
 refine We ?_
 rcases condE h with ⟨t,h⟩ | ⟨t,h⟩
 ·refine CT t<|Ws<|WP.quiet S kr kr<|QM<|QM<|B h fun ac ad h=>QJa ad<|B h fun u ae h=>WQ.call (v:=str u) rfl (fun w H' hq S=>zGM S.holds k ac ae)<|QM<|B h fun af ah h=>QJa ah<|B h fun ai aj h=>WQ.call (v:=str ai) rfl (fun w H' hq S=>zEQ S.holds u af aj)<|QA<|WQ.nil ?_
  intro w9 au av S
  exact WP.ret (Rs h S)
 refine CF t<|Wk<|Ws<|Ws<|Wg<|M<|B h fun aw ak h=>W.call S rfl (zEF S.holds c ak) ?_
 rintro ax ay az a0 S rfl
 refine M ?_
 refine Ex ?_
 refine Ex ?_
 refine W.alloc (List.replicate 256 (boo false)) S zRF ?_
 intro al a1 S
 refine W.store (i:=0) (setc c) S rfl rfl rfl zOu (show (Lib.setCells c).size=256 by have:=zFu c; simpa [setc] using this) (zNP c) (Nat.le_of_eq (by rw [List.length_replicate])) (zKu ((zFu c).trans (by rw [List.length_replicate]))) ?_
 intro a2 S
 obtain ⟨x,a3,am,_,S⟩:=S.settle (i:=0) rfl
 replace S:St o p _ x []:=S
 have l:At x ⟨al,0,none⟩ (setc c):=⟨_,_,rfl,am,[],by simp⟩
 refine A<|We<|Ws<|Wg<|M<|We<|WP.condT (b:=true) rfl rfl<|Ws<|Wg<|M<|B h fun an ao h=>W.call S rfl (zF7 S.holds k c l ao) ?_
 rintro a4 a5 a6 ap S rfl
 have l:=At.mono l ap (by intro h; have:=congrArg List.length h; rw [zFu] at this; cases this)
 refine B h fun a7 aq h=>W.call S rfl (zD0 S.holds an c l aq) ?_
 rintro a8 a9 ba bb S rfl
 refine A<|We ?_
 exact WP.ret (Rs h S)
theorem zFN {c:World} {d:Hp} (hw:Holds c d) (b:Str) {r:Str} (h:zEZ b=some r) :
  Cs Tryz.prog 154 [(str b)] c d r:=by
 refine CM 5 Tryz.func154 hw fun S=>?_
 refine Ws<|Wg<|A<|We<|Ws<|Wg<|M<|B h fun i f h=>W.call S rfl (zJ7 S.holds b [32,9] f) ?_
 rintro j k l o S rfl
 refine A<|We ?_
 exact WP.ret (Rs h S)
theorem zLi {w0:World} {x:Hp} (hw:Holds w0 x) (t:Str) {r:(List Str)} (h:zHp t=some r) :
  Con Tryz.prog 126 [(str t)] w0 x (fun H' v=>Sl H' v r):=by
 refine CM 52 Tryz.func126 hw fun S=>?_
 refine Ws<|Wg<|A<|We<|Ws<|Wg<|A<|We<|Ws<|Wg<|A<|A ?_
 refine We<|Ws<|Ws<|Wg<|A<|We ?_
 have S:=S.addNil 9 1
 refine B h fun ai aq h=>WP.cut (fun f w=>∃ (aj:Hp) (ac:Value),f 3=ac∧Sl aj ac ai∧St w0 x w aj [.row ac 9 1 ai.length]) ?_ ?_
 ·refine Wb ?_
  refine WP.loopM (zAw t) (fun s f w=>match s with | (ad,ae,an,z)=>∃ (H1:Hp) (u:Value),f 0=(str t)∧f 3=u∧f 4=(int ae)∧f 5=(int an)∧f 6=(int z)∧Sl H1 u ad∧St w0 x w H1 [.row u 9 1 ad.length]) (([]:List Str),0,0,0) ai aq ?_ ?_
  ·exact ⟨x,.slice none 0 0,rfl,rfl,rfl,rfl,rfl,Sl.nil,S⟩
  intro s f w hI bh b ar
  obtain ⟨ad,ae,an,z⟩:=s
  obtain ⟨H1,u,o,h6,h8,ao,l,d,S⟩:=hI
  refine Ws<|Ws<|Wg<|M' l<|M' o<|Ns<|Lb<|M ?_
  refine WL.grp 4 [13,14,15] 16 (boo ((decide (z≤(t.length:Int)))&&(decide ((ad.length:Int)<64)))) ?_ ?_
  ·rcases boolE (decide (z≤(t.length:Int))) with k | k
   ·refine Gy k<|M' h6<|Gy k<|Nq d<|Gy k<|La<|Pt k ?_
    exact We ⟨(andT k),ag,rfl⟩
   refine Gn k<|Gn k<|Gn k<|Pf k ?_
   exact We ⟨(andF k),ag,rfl⟩
  intro us
  refine We ?_
  rcases condE b with ⟨ak,b⟩ | ⟨ak,b⟩
  ·refine CT ak<|Wk<|Ws<|Wb<|Ws<|Ws<|Wg<|M' l<|M' o<|Ns<|La<|M<|B b fun au p b=>WL.grp 9 [24,25,26,27,28,29,30,31] 32 (boo au) ?_ ?_
   ·rcases boolE (decide (z<(t.length:Int))) with c | c
    ·replace p:=condT p c
     refine Gy c<|M' h8<|Gy c<|Lf<|Gy c<|M<|B p fun av q p=>WL.grp 5 [27,28,29,30] 31 (boo av) ?_ ?_
     ·rcases boolE (ae !=0) with j | j
      ·replace q:=condT q j
       refine Gn j<|Gn j<|Gn j<|Gn j<|Gy c<|Pt j ?_
       exact We ⟨(ob q),ag,rfl⟩
      replace q:=condF q j
      refine Gy j<|M' o<|Gy j<|M' l<|Gy j<|B q fun aw ax q=>Ja ax<|Gy j<|Mf aw 44<|Gy c<|Pf j ?_
      exact We ⟨(ob q),ag,rfl⟩
     intro us
     refine Pt c ?_
     exact We ⟨(ob p),ag,rfl⟩
    replace p:=condF p c
    refine Gn c<|Gn c<|Gn c<|WL.gund rfl rfl<|WL.gund rfl rfl<|WL.gund rfl rfl<|WL.gund rfl rfl<|Gn c<|Pf c ?_
    exact We ⟨(ob p),ag,rfl⟩
   intro us
   refine We ?_
   rcases condE b with ⟨al,b⟩ | ⟨al,b⟩
   ·refine CT al<|Ws<|Wg<|M' h8<|M' o<|M' l<|B b fun ay az b=>Ja az<|B b fun bi a0 b=>W.call S rfl (zMA S.holds ae ay a0) ?_
    rintro bj bk a1 a2 S rfl
    have d:=d.up a2
    refine A<|We<|Wx<|Wg<|M' l<|Lg<|A<|We ?_
    cases b
    exact ⟨rfl,⟨a1,u,o,h6,rfl,ao,rfl,d,S⟩⟩
   refine CF al<|Wk<|Ws<|Ws<|Wg<|M' o<|M' ao<|M' l<|B b fun a3 a4 b=>Jb a4<|B b fun ap a5 b=>W.call S rfl (zFN S.holds a3 a5) ?_
   rintro bn bo a6 a7 S rfl
   have d:=d.up a7
   refine A<|We<|Ws<|Wg<|M<|Nb<|We ?_
   rcases condE b with ⟨am,b⟩ | ⟨am,b⟩
   ·refine CT am<|Wg<|M' h6<|M<|W.bslice (α:=Str) [(str ap)] ([ap]:List Str) S el34 rfl rfl rfl (by decide) (Go.Eng.encS ⟨rfl,rfl⟩ enc0) ?_
    intro bp bq br a8 a9 S
    have d:=d.up a8
    refine B b fun bs ba b=>W.app (α:=Str) (i:=1) S el34 rfl rfl rfl d a9 ba ?_
    intro bb bt bc bd be S
    have d:=d.up bd
    refine A<|We<|Wg<|M' l<|Lg<|A<|We<|Wg<|M' l<|Lg<|A<|We ?_
    cases b
    exact ⟨rfl,⟨bc,bb,o,rfl,h8,rfl,rfl,be,(S.drop _ (.cons _ (.cons_cons _ .slnil)))⟩⟩
   refine CF am<|Wk<|Wg<|M' l<|Lg<|A<|We<|Wg<|M' l<|Lg<|A<|We ?_
   cases b
   exact ⟨rfl,⟨a6,u,o,h6,h8,rfl,rfl,d,S⟩⟩
  refine CF ak<|Wx ?_
  cases b
  obtain rfl:=ar
  exact ⟨H1,u,h6,d,S⟩
 rintro f w ⟨aj,ac,bf,bg,S⟩
 refine Ws<|Wg<|M' bf<|A<|We ?_
 exact WP.ret (Rl h S bg)
theorem zDx {o:World} {j:Hp} (hw:Holds o j) (q:(List GField)) (t:Str) {ad:Value} (ao:Sl j ad q) {r:(List Str)} (h:zEA q t=some r) :
  Con Tryz.prog 98 [ad,(str t)] o j (fun H' v=>Sl H' v r):=by
 refine CM 26 Tryz.func98 hw fun S=>?_
 refine Ws<|Wg<|A<|We<|Ws<|Wg<|A<|We<|Ws<|Ws<|Wg<|M ?_
 refine M<|B h fun u ap h=>W.call S rfl (zHA S.holds q t ao ap) ?_
 rintro v2 w3 H4 a7 S c
 refine Nq c<|M<|We ?_
 have S:=S.addNil 9 1
 refine B h fun x ar h=>WP.cut (fun f w=>∃ (z:Hp) (p:Value),f 5=p∧Sl z p x∧St o j w z [.row p 9 1 x.length]) ?_ ?_
 ·refine Wb ?_
  refine WP.loopM (zFZ u) (fun s f w=>match s with | (aa,af)=>∃ (k:Hp) (l:Value),f 5=l∧f 10=v2∧f 11=(int (u.length:Int))∧f 12=(int af)∧Sl k l aa∧Sl k v2 u∧St o j w k [.row l 9 1 aa.length]) (([]:List Str),0) x ar ?_ ?_
  ·exact ⟨H4,.slice none 0 0,rfl,rfl,rfl,rfl,Sl.nil,c,S⟩
  intro s f w hI a8 b au
  obtain ⟨aa,af⟩:=s
  obtain ⟨k,l,ah,ai,aj,ab,d,c,S⟩:=hI
  refine Ws<|Wg<|La' ab aj<|We<|Ws ?_
  rcases condE b with ⟨ac,b⟩ | ⟨ac,b⟩
  ·refine CT ac<|Wk<|Ws<|Wb<|Ws<|Wg<|B b fun av aw b=>W.idx (α:=Str) c ai ab el34 aw ?_
   rintro a9 _ ax rfl
   refine Lq S ax<|A<|We<|Wg<|M' ah<|M<|B b fun ba ay b=>W.call S rfl (zLi S.holds av ay) ?_
   rintro bb bc bd ak S az
   have d:=d.up ak
   have c:=c.up ak
   refine B b fun be a0 b=>W.app (α:=Str) (i:=0) S el34 rfl rfl rfl d az a0 ?_
   intro a1 bf a2 al a3 S
   have d:=d.up al
   have c:=c.up al
   refine A<|We<|Wg<|Lg' ab rfl<|M<|We ?_
   cases b
   exact ⟨rfl,⟨a2,a1,rfl,ai,aj,rfl,a3,c,S⟩⟩
  refine CF ac<|Wx ?_
  cases b
  obtain rfl:=au
  exact ⟨k,l,ah,d,S⟩
 rintro f w ⟨z,p,am,an,S⟩
 refine Ws<|Wg<|M' am<|M' am<|Nq an<|Ni<|B h fun bg a4 h=>W.subHi (α:=Str) an rfl rfl el34 a4 ?_
 intro bh a5
 refine A<|We ?_
 exact WP.ret (Rl h S a5)
theorem zDa {i:World} {j:Hp} (hw:Holds i j) (k:Int) {r:Str} (h:zBV k=some r) :
  Cs Tryz.prog 178 [(int k)] i j r:=by
 refine CM 12 Tryz.func178 hw fun S=>?_
 refine Ws<|Wg<|A<|We<|Ws<|Ws<|Wg<|M<|We<|Wb<|Ws<|Wg ?_
 refine Le<|A<|We ?_
 rcases condE h with ⟨b,h⟩ | ⟨b,h⟩
 ·refine CT b<|Ws<|Wg<|A<|We ?_
  exact WP.ret (Rs h S)
 refine CF b<|Ws<|Wg<|Le<|A<|We ?_
 rcases condE h with ⟨c,h⟩ | ⟨c,h⟩
 ·refine CT c<|Ws<|Wg<|A<|We ?_
  exact WP.ret (Rs h S)
 refine CF c<|Ws<|Wg<|Le<|A<|We ?_
 rcases condE h with ⟨d,h⟩ | ⟨d,h⟩
 ·refine CT d<|Ws<|Wg<|A<|We ?_
  exact WP.ret (Rs h S)
 refine CF d<|Ws<|Wg<|Le<|A<|We ?_
 rcases condE h with ⟨f,h⟩ | ⟨f,h⟩
 ·refine CT f<|Ws<|Wg<|A<|We ?_
  exact WP.ret (Rs h S)
 refine CF f<|Wk<|Ws<|Wg<|A<|We ?_
 exact WP.ret (Rs h S)
theorem zDM {j:World} {d:Hp} (hw:Holds j d) (f:Str) (i:Str) {r:Bool} (h:zDI f i=some r) :
  Cb Tryz.prog 177 [(str f),(str i)] j d r:=by
 refine CM 17 Tryz.func177 hw fun S=>?_
 refine Ws<|Wg<|A<|We<|Ws<|Wg<|M<|Ns<|M<|Ns<|Le<|M<|B h fun k c h=>WL.grpw 6 [11,12,13,14,15] 16 (boo k) (fun w=>∃ H':Hp,d.le H'∧St j d w H' []) ?_ ?_
 ·rcases boolE ((f.length:Int)==(i.length:Int)) with b | b
  ·replace c:=condT c b
   refine Gy b<|M<|Gy b<|B c fun u l c=>W.call S rfl (zAV S.holds f l) ?_
   rintro v x z o S rfl
   refine Gy b<|M<|Gy b<|B c fun r8 p c=>W.call S rfl (zAV S.holds i p) ?_
   rintro v9 ac q t S rfl
   refine Gy b<|Na<|Pt b ?_
   exact We ⟨(ob c),ag,⟨q,(o.trans t),S⟩⟩
  replace c:=condF c b
  refine Gn b<|Gn b<|Gn b<|Gn b<|Gn b<|Pf b ?_
  exact We ⟨(ob c),ag,⟨d,lr,S⟩⟩
 intro us ad ⟨ae,af,S⟩
 refine A<|We ?_
 exact WP.ret (Rb h S)
theorem zGC {k:World} {l:Hp} (hw:Holds k l) (c:Str) {r:Int} (h:zEg c=some r) :
  Ci Tryz.prog 139 [(str c)] k l r:=by
 refine CM 13 Tryz.func139 hw fun S=>?_
 refine Ws<|Wg<|A<|We<|Ws<|Ws<|Wg<|A<|We<|Wb<|WP.loopRd 5<|RD.succ ?_
 refine Ws<|Ws<|Wg<|M ?_
 refine WL.w (v:=boo true) (R.ofEq (R.leq rfl rfl) rfl)<|We<|WP.condT (b:=true) rfl rfl<|Wk<|Ws<|Wb<|Ws<|Wg ?_
 refine M<|M<|B h fun o p h=>W.call S rfl (zDa S.holds 1 p) ?_
 rintro v2 w3 H4 aj S rfl
 refine B h fun r6 q h=>W.call S rfl (zDM S.holds c o q) ?_
 rintro v7 w8 H9 ao S rfl
 refine We ?_
 rcases condE h with ⟨d,h⟩ | ⟨d,h⟩
 ·refine CT d<|Ws<|Wg<|M<|A<|We ?_
  exact WP.ret (Ri h S)
 refine CF d<|Wk<|Wg<|M ?_
 refine WL.w (v:=int 2) (R.ofEq (R.add rfl rfl) rfl)<|A<|We<|RD.succ<|Ws<|Ws<|Wg<|M ?_
 refine WL.w (v:=boo true) (R.ofEq (R.leq rfl rfl) rfl)<|We<|WP.condT (b:=true) rfl rfl<|Wk<|Ws<|Wb<|Ws<|Wg<|M<|M<|B h fun t u h=>W.call S rfl (zDa S.holds 2 u) ?_
 rintro ap aq ar au S rfl
 refine B h fun av x h=>W.call S rfl (zDM S.holds c t x) ?_
 rintro aw ax ay az S rfl
 refine We ?_
 rcases condE h with ⟨f,h⟩ | ⟨f,h⟩
 ·refine CT f<|Ws<|Wg<|M<|A<|We ?_
  exact WP.ret (Ri h S)
 refine CF f<|Wk<|Wg<|M ?_
 refine WL.w (v:=int 3) (R.ofEq (R.add rfl rfl) rfl)<|A<|We<|RD.succ<|Ws<|Ws<|Wg<|M ?_
 refine WL.w (v:=boo true) (R.ofEq (R.leq rfl rfl) rfl)<|We<|WP.condT (b:=true) rfl rfl<|Wk<|Ws<|Wb<|Ws<|Wg<|M<|M<|B h fun z aa h=>W.call S rfl (zDa S.holds 3 aa) ?_
 rintro a0 a1 a2 a3 S rfl
 refine B h fun a4 ab h=>W.call S rfl (zDM S.holds c z ab) ?_
 rintro a5 a6 a7 a8 S rfl
 refine We ?_
 rcases condE h with ⟨i,h⟩ | ⟨i,h⟩
 ·refine CT i<|Ws<|Wg<|M<|A<|We ?_
  exact WP.ret (Ri h S)
 refine CF i<|Wk<|Wg<|M ?_
 refine WL.w (v:=int 4) (R.ofEq (R.add rfl rfl) rfl)<|A<|We<|RD.succ<|Ws<|Ws<|Wg<|M ?_
 refine WL.w (v:=boo true) (R.ofEq (R.leq rfl rfl) rfl)<|We<|WP.condT (b:=true) rfl rfl<|Wk<|Ws<|Wb<|Ws<|Wg<|M<|M<|B h fun ac ad h=>W.call S rfl (zDa S.holds 4 ad) ?_
 rintro a9 ba bb bc S rfl
 refine B h fun bd ae h=>W.call S rfl (zDM S.holds c ac ae) ?_
 rintro be bf bg bh S rfl
 refine We ?_
 rcases condE h with ⟨j,h⟩ | ⟨j,h⟩
 ·refine CT j<|Ws<|Wg<|M<|A<|We ?_
  exact WP.ret (Ri h S)
 refine CF j<|Wk<|Wg<|M ?_
 refine WL.w (v:=int 5) (R.ofEq (R.add rfl rfl) rfl)<|A<|We<|RD.succ<|Ws<|Ws<|Wg<|M ?_
 refine WL.w (v:=boo false) (R.ofEq (R.leq rfl rfl) rfl)<|We<|WP.condF (b:=false) rfl rfl<|Wx<|Ws<|Wg<|A<|We ?_
 exact WP.ret (Ri h S)
theorem zJN {d:World} {b:Hp} (hw:Holds d b) (c:(List Str)) {f:Value} (i:Sl b f c) {r:Str} (h:zGP c=some r) :
  Cs Tryz.prog 140 [f] d b r:=by
 refine CM 5 Tryz.func140 hw fun S=>?_
 refine Ws<|Wg<|A<|We<|Ws<|Wg<|M<|B h fun k j h=>W.call S rfl (zHQ S.holds c [44,32] i j) ?_
 rintro l o p q S rfl
 refine A<|We ?_
 exact WP.ret (Rs h S)
theorem zLO {o:World} {j:Hp} (hw:Holds o j) (d:Str) (f:(List GField)) {p:Value} (b:Sl j p f) {r:Str} (h:zHs d f=some r) :
  Cs Tryz.prog 107 [(str d),p] o j r:=by
 refine CM 30 Tryz.func107 hw fun S=>?_
 refine Ws<|Wg<|A<|We<|Ws<|Ws<|Wg<|M<|M<|B h fun r1 v h=>W.call S rfl (zE5 S.holds f d b v) ?_
 rintro v2 w3 H4 x S rfl
 have b:=b.up x
 refine No<|We ?_
 rcases condE h with ⟨k,h⟩ | ⟨k,h⟩
 ·refine CT k<|Ws<|Wg<|A<|We ?_
  exact WP.ret (Rs h S)
 refine CF k<|Wk<|Ws<|Ws<|Wg<|M<|M<|B h fun q z h=>W.call S rfl (zDx S.holds f d b z) ?_
 rintro v8 w9 aw aa S i
 have b:=b.up aa
 refine A<|We<|Ws<|Wg<|M<|B h fun t ab h=>W.call S rfl (zGC S.holds d ab) ?_
 rintro ax ay az u S rfl
 have b:=b.up u
 have i:=i.up u
 refine Lf<|M ?_
 refine WL.grp 4 [17,18,19] 20 (boo ((t !=0)&&(decide ((q.length:Int)<64)))) ?_ ?_
 ·rcases boolE (t !=0) with c | c
  ·refine Gy c<|M<|Gy c<|Nq i<|Gy c<|La<|Pt c ?_
   exact We ⟨(andT c),ag,rfl⟩
  refine Gn c<|Gn c<|Gn c<|Pf c ?_
  exact We ⟨(andF c),ag,rfl⟩
 intro us
 refine We ?_
 rcases condE h with ⟨l,h⟩ | ⟨l,h⟩
 ·refine CT l<|Ws<|Wg<|M<|B h fun ac ad h=>W.call S rfl (zJN S.holds q i ad) ?_
  rintro a0 a1 a2 ae S rfl
  have b:=b.up ae
  refine B h fun a3 af h=>W.call S rfl (zAV S.holds ac af) ?_
  rintro a4 a5 a6 ah S rfl
  have b:=b.up ah
  refine B h fun a7 ai h=>Je ai<|A<|We ?_
  exact WP.ret (Rs h S)
 refine CF l<|Wk<|Ws<|Wg<|M<|M<|B h fun aj ak h=>W.call S rfl (zHA S.holds f d b ak) ?_
 rintro a8 a9 ba bb S al
 refine B h fun bc am h=>W.call S rfl (zHQ S.holds aj [44,32] al am) ?_
 rintro bd be bf bg S rfl
 refine B h fun bh an h=>Je an<|A<|We ?_
 exact WP.ret (Rs h S)
theorem zG9 {t:World} {k:Hp} (hw:Holds t k) (o:(List Str)) (p:(List GField)) {u:Value} {x:Value} (b:Sl k u o) (d:Sl k x p) {r:(List Str)} (h:zEH o p=some r) :
  Con Tryz.prog 70 [u,x] t k (fun H' v=>Sl H' v r):=by
 refine CM 22 Tryz.func70 hw fun S=>?_
 refine Ws<|Wg<|A<|We<|Ws<|Wg<|A<|We<|Ws<|Ws<|Wg<|M ?_
 refine Nq b<|M<|We ?_
 have S:=S.addNil 9 1
 refine B h fun aa ap h=>WP.cut (fun f w=>∃ (ab:Hp) (z:Value),f 5=z∧Sl ab z aa∧St t k w ab [.row z 9 1 aa.length]) ?_ ?_
 ·refine Wb ?_
  refine WP.loopM (zCb o p) (fun s f w=>match s with | (ac,aj)=>∃ (l:Hp) (q:Value),f 1=x∧f 5=q∧f 8=u∧f 9=(int (o.length:Int))∧f 10=(int aj)∧Sl l x p∧Sl l q ac∧Sl l u o∧St t k w l [.row q 9 1 ac.length]) (([]:List Str),0) aa ap ?_ ?_
  ·exact ⟨k,.slice none 0 0,rfl,rfl,rfl,rfl,rfl,d,Sl.nil,b,S⟩
  intro s f w hI a4 c aq
  obtain ⟨ac,aj⟩:=s
  obtain ⟨l,q,h2,h6,h7,h8,ad,d,j,b,S⟩:=hI
  refine Ws<|Wg<|La' ad h8<|We<|Ws ?_
  rcases condE c with ⟨ae,c⟩ | ⟨ae,c⟩
  ·refine CT ae<|Wk<|Ws<|Wb<|Ws<|Wg<|B c fun ar au c=>W.idx (α:=Str) b h7 ad el34 au ?_
   rintro a5 _ av rfl
   refine Lq S av<|A<|We<|Wg<|M' h6<|M<|M' h2<|B c fun ao aw c=>W.call S rfl (zLO S.holds ar p d aw) ?_
   rintro a6 a7 a8 af S rfl
   have d:=d.up af
   have j:=j.up af
   have b:=b.up af
   refine W.bslice (α:=Str) [(str ao)] ([ao]:List Str) S el34 rfl rfl rfl (by decide) (Go.Eng.encS ⟨rfl,rfl⟩ enc0) ?_
   intro a9 ba bb ah ax S
   have d:=d.up ah
   have j:=j.up ah
   have b:=b.up ah
   refine B c fun bc ay c=>W.app (α:=Str) (i:=1) S el34 rfl rfl rfl j ax ay ?_
   intro az bd a0 ai a1 S
   have d:=d.up ai
   have j:=j.up ai
   have b:=b.up ai
   refine A<|We<|Wg<|Lg' ad rfl<|M<|We ?_
   cases c
   exact ⟨rfl,⟨a0,az,h2,rfl,h7,h8,rfl,d,a1,b,(S.drop _ (.cons _ (.cons_cons _ .slnil)))⟩⟩
  refine CF ae<|Wx ?_
  cases c
  obtain rfl:=aq
  exact ⟨l,q,h6,j,S⟩
 rintro f w ⟨ab,z,a2,a3,S⟩
 refine Ws<|Wg<|M' a2<|A<|We ?_
 exact WP.ret (Rl h S a3)
theorem zAu {l:World} {d:Hp} (hw:Holds l d) (j:(List Str)) (o:(List Str)) {p:Value} {q:Value} (c:Sl d p j) (i:Sl d q o) {r:Bool} (h:zAY j o=some r) :
  Cb Tryz.prog 73 [p,q] l d r:=by
 refine CM 26 Tryz.func73 hw fun S=>?_
 refine Ws<|Wg<|A<|We<|Ws<|Ws<|Wg<|M<|Nq c<|M<|Nq i<|Lf ?_
 refine We ?_
 rcases condE h with ⟨t,h⟩ | ⟨t,h⟩
 ·refine CT t<|Ws<|Wg<|A<|We ?_
  exact WP.ret (Rb h S)
 refine CF t<|Wk<|Ws<|Ws<|Wg<|M<|Nq c<|M<|We<|B h fun u ai h=>WP.cut (fun f w=>match u with | .inl _=>∃ (H8:Hp),St l d w H8 [] | .inr _=>False) ?_ ?_
 ·refine Wb ?_
  refine WP.loopM (zAv j o) (fun s f w=>match s with | ab=>∃ (k:Hp),f 0=p∧f 1=q∧f 12=(int (j.length:Int))∧f 13=(int ab)∧Sl k p j∧Sl k q o∧St l d w k []) 0 u ai ?_ ?_
  ·exact ⟨d,rfl,rfl,rfl,rfl,c,i,S⟩
  intro ab f w hI y9 b ac
  obtain ⟨k,h3,h4,h5,v,c,i,S⟩:=hI
  refine Ws<|Wg<|La' v h5<|We<|Ws ?_
  rcases condE b with ⟨x,b⟩ | ⟨x,b⟩
  ·refine CT x<|Wk<|Ws<|Wb<|Ws<|Wg<|M' v<|A<|We<|Ws<|WP.quiet S kr kr<|QM' h3 ?_
   refine QM<|B b fun aj ak b=>WQ.idx (α:=Str) c rfl rfl el34 ak ?_
   rintro ar _ al rfl
   refine QH (str aj) al<|QM' h4<|QM<|B b fun am an b=>WQ.idx (α:=Str) i rfl rfl el34 an ?_
   rintro au _ ao rfl
   refine QH (str am) ao<|QNb<|WQ.nil ?_
   intro av ap ah S
   have c:=c.up ah
   have i:=i.up ah
   rcases condE b with ⟨z,b⟩ | ⟨z,b⟩
   ·refine CT z<|Ws<|Wg<|A<|We ?_
    cases b
    obtain rfl:=ac
    exact WP.ret (Rb h S)
   refine CF z<|Wk<|Wg<|Lg' v rfl<|M<|We ?_
   cases b
   exact ⟨rfl,⟨ap,h3,h4,h5,rfl,c,i,S⟩⟩
  refine CF x<|Wx ?_
  cases b
  obtain rfl:=ac
  exact ⟨k,S⟩
 intro f w hM
 rcases u with _ | e
 ·obtain ⟨H8,S⟩:=hM
  refine Ws<|Wg<|A<|We ?_
  exact WP.ret (Rb h S)
 exact hM.elim
theorem zLP {k:World} {d:Hp} (hw:Holds k d) (f:(List Str)) (i:(List Str)) (l:(List GField)) {o:Value} {p:Value} {q:Value} (t:Sl d o f) (j:Sl d p i) (v:Sl d q l) {r:Bool} (h:zHi f i l=some r) :
  Cb Tryz.prog 36 [o,p,q] k d r:=by
 refine CM 19 Tryz.func36 hw fun S=>?_
 refine Ws<|Wg<|A<|We<|Ws<|Wg<|M<|Nq t<|M<|Nq j<|Le<|M<|B h fun x c h=>WL.grpw 6 [13,14,15,16,17] 18 (boo x) (fun w=>∃ H':Hp,d.le H'∧St k d w H' []) ?_ ?_
 ·rcases boolE ((f.length:Int)==(i.length:Int)) with b | b
  ·replace c:=condT c b
   refine Gy b<|M<|Gy b<|M<|Gy b<|B c fun z aa c=>W.call S rfl (zG9 S.holds f l t v aa) ?_
   rintro v4 w5 H6 u S R8
   have j:=j.up u
   refine Gy b<|M<|Gy b<|B c fun r9 ac c=>W.call S rfl (zAu S.holds z i R8 j ac) ?_
   rintro ak al ad ae S rfl
   refine Pt b ?_
   exact We ⟨(ob c),ag,⟨ad,(u.trans ae),S⟩⟩
  replace c:=condF c b
  refine Gn b<|Gn b<|Gn b<|Gn b<|Gn b<|Pf b ?_
  exact We ⟨(ob c),ag,⟨d,lr,S⟩⟩
 intro us am ⟨an,ao,S⟩
 refine A<|We ?_
 exact WP.ret (Rb h S)
theorem zKI {l:World} {c:Hp} (hw:Holds l c) (b:GEntry) (d:(List GField)) {f:Value} {i:Value} {j:Value} {k:Value} {o:Value} {p:Addr} (z:Sl c f b.fKeys) (q:Sl c i b.fVary) (t:Sl c j b.fSnapshot) (aa:Sl c k b.fFields) (u:At c p [o]) (v:Sl c o d) {r:Bool} (h:zFt b d=some r) :
  Cb Tryz.prog 35 [(agg [f,i,j,(str b.fReason),k,(str b.fBody),(int b.fRequested),(int b.fReceived)]),(.pointer (some p))] l c r:=by
 refine CM 10 Tryz.func35 hw fun S=>?_
 refine Ws<|Wg ?_
 refine W.box [f,i,j,(str b.fReason),k,(str b.fBody),(int b.fRequested),(int b.fReceived)] S rfl rfl ?_
 intro b1 w2 S
 refine A<|We<|Ws<|Wg<|Fb ?_
 refine Lo 0 S<|Fb ?_
 refine Lo 0 S ?_
 refine Lq S u<|B h fun r3 x h=>W.call S rfl (zLP S.holds b.fVary b.fSnapshot d q t v x) ?_
 rintro v4 w5 H6 ai S rfl
 refine A<|We ?_
 exact WP.ret (Rb h S)
theorem zGg {l:World} {d:Hp} (hw:Holds l d) (j:(List GEntry)) (t:(GEntry→Option Bool)) {o:Value} {kp_test:FuncId} {cp_test:List Value} (i:Sl d o j) (Fp_test:∀ {w:World} {H:Hp},d.le H→Holds w H→∀ (c:GEntry),∀ {aa ab ac ad:Value},Sl H aa c.fKeys→Sl H ab c.fVary→Sl H ac c.fSnapshot→Sl H ad c.fFields→∀ (rr:Bool),t c=some rr→Con Tryz.prog kp_test ([(agg [aa,ab,ac,(str c.fReason),ad,(str c.fBody),(int c.fRequested),(int c.fReceived)])]++cp_test) w H (fun H' v=>v=(boo rr))) {r:Int} (h:zFT j t=some r) :
  Ci Tryz.prog 34 [o,(.func (.func kp_test) #[] cp_test.toArray)] l d r:=by
 refine CM 20 Tryz.func34 hw fun S=>?_
 refine Ws<|Wg<|A<|We<|Ws<|Ws<|Wg<|M<|Nq i<|Lh<|A<|We<|B h fun u ak h=>WP.cut (fun f w=>match u with | .inl _=>∃ (H6:Hp),St l d w H6 [] | .inr _=>False) ?_ ?_
 ·refine Wb ?_
  refine WP.loopM (zDL j t) (fun s f w=>match s with | af=>∃ (p:Hp),f 0=o∧f 1=(.func (.func kp_test) #[] cp_test.toArray)∧f 5=(int af)∧Sl p o j∧St l d w p []) (wr ((j.length:Int) - 1)) u ak ?_ ?_
  ·exact ⟨d,rfl,rfl,rfl,i,S⟩
  intro af f w hI y7 b ah
  obtain ⟨p,h2,h3,q,i,S⟩:=hI
  refine Ws<|Ws<|Wg<|M' q<|Ld<|We ?_
  rcases condE b with ⟨x,b⟩ | ⟨x,b⟩
  ·refine CT x<|Wk<|Ws<|Wb<|Ws<|Wg<|M' h3<|M' h2<|M' q<|B b fun k al b=>W.idx (α:=GEntry) i rfl rfl el23 al ?_
   rintro a1 _ am ⟨an,ao,ap,aq,rfl,ar,au,av,aw⟩
   refine WL.w (R.loadHN (vs:=[an,ao,ap,(str k.fReason),aq,(str k.fBody),(int k.fRequested),(int k.fReceived)]) S rfl am lay36 rfl rfl)<|B b fun a2 ax b=>W.callv S rfl rfl (Fp_test (S.post.le) S.holds k ar au av aw _ ax) ?_
   rintro a3 a4 ay az S rfl
   have i:=i.up az
   refine We ?_
   rcases condE b with ⟨z,b⟩ | ⟨z,b⟩
   ·refine CT z<|Ws<|Wg<|M' q<|A<|We ?_
    cases b
    obtain rfl:=ah
    exact WP.ret (Ri h S)
   refine CF z<|Wk<|Wg<|M' q<|Lh<|A<|We ?_
   cases b
   exact ⟨rfl,⟨ay,h2,h3,rfl,i,S⟩⟩
  refine CF x<|Wx ?_
  cases b
  obtain rfl:=ah
  exact ⟨p,S⟩
 intro f w hM
 rcases u with _ | e
 ·obtain ⟨H6,S⟩:=hM
  refine Ws<|Wg<|A<|We ?_
  exact WP.ret (Ri h S)
 exact hM.elim
theorem zLB {t:World} {d:Hp} (hw:Holds t d) (c:UInt8) {r:Bool} (h:zHo c=some r) :
  Cb Tryz.prog 120 [(byt c)] t d r:=by
 refine CM 42 Tryz.func120 hw fun S=>?_
 refine Ws<|Wg<|A<|We<|Ws<|Ws<|Wg<|M<|We<|B h fun j4 p h=>WP.cut (fun f w=>match j4 with | .inl _=>∃ (H1:Hp),f 0=(byt c)∧St t d w H1 [] | .inr _=>False) ?_ ?_
 ·refine Wb<|Ws<|Ws<|Wg<|Me c 33<|A<|We<|B p fun aq b p=>WP.cut (fun f w=>∃ (u:Hp),f 0=(byt c)∧f 4=(boo aq)∧St t d w u []) ?_ ?_
  ·rcases condE b with ⟨v,b⟩ | ⟨v,b⟩
   ·refine CT v<|Wk ?_
    cases b
    exact ⟨d,rfl,rfl,S⟩
   refine CF v<|Ws<|Wg<|Me c 35<|A<|We ?_
   rcases condE b with ⟨x,b⟩ | ⟨x,b⟩
   ·refine CT x<|Wk ?_
    cases b
    exact ⟨d,rfl,rfl,S⟩
   refine CF x<|Ws<|Wg<|Me c 36<|A<|We ?_
   rcases condE b with ⟨z,b⟩ | ⟨z,b⟩
   ·refine CT z<|Wk ?_
    cases b
    exact ⟨d,rfl,rfl,S⟩
   refine CF z<|Ws<|Wg<|Me c 37<|A<|We ?_
   rcases condE b with ⟨aa,b⟩ | ⟨aa,b⟩
   ·refine CT aa<|Wk ?_
    cases b
    exact ⟨d,rfl,rfl,S⟩
   refine CF aa<|Ws<|Wg<|Me c 38<|A<|We ?_
   rcases condE b with ⟨ab,b⟩ | ⟨ab,b⟩
   ·refine CT ab<|Wk ?_
    cases b
    exact ⟨d,rfl,rfl,S⟩
   refine CF ab<|Ws<|Wg<|Me c 39<|A<|We ?_
   rcases condE b with ⟨ac,b⟩ | ⟨ac,b⟩
   ·refine CT ac<|Wk ?_
    cases b
    exact ⟨d,rfl,rfl,S⟩
   refine CF ac<|Ws<|Wg<|Me c 42<|A<|We ?_
   rcases condE b with ⟨ad,b⟩ | ⟨ad,b⟩
   ·refine CT ad<|Wk ?_
    cases b
    exact ⟨d,rfl,rfl,S⟩
   refine CF ad<|Ws<|Wg<|Me c 43<|A<|We ?_
   rcases condE b with ⟨ae,b⟩ | ⟨ae,b⟩
   ·refine CT ae<|Wk ?_
    cases b
    exact ⟨d,rfl,rfl,S⟩
   refine CF ae<|Ws<|Wg<|Me c 45<|A<|We ?_
   rcases condE b with ⟨af,b⟩ | ⟨af,b⟩
   ·refine CT af<|Wk ?_
    cases b
    exact ⟨d,rfl,rfl,S⟩
   refine CF af<|Ws<|Wg<|Me c 46<|A<|We ?_
   rcases condE b with ⟨ah,b⟩ | ⟨ah,b⟩
   ·refine CT ah<|Wk ?_
    cases b
    exact ⟨d,rfl,rfl,S⟩
   refine CF ah<|Ws<|Wg<|Me c 94<|A<|We ?_
   rcases condE b with ⟨ai,b⟩ | ⟨ai,b⟩
   ·refine CT ai<|Wk ?_
    cases b
    exact ⟨d,rfl,rfl,S⟩
   refine CF ai<|Ws<|Wg<|Me c 95<|A<|We ?_
   rcases condE b with ⟨aj,b⟩ | ⟨aj,b⟩
   ·refine CT aj<|Wk ?_
    cases b
    exact ⟨d,rfl,rfl,S⟩
   refine CF aj<|Ws<|Wg<|Me c 96<|A<|We ?_
   rcases condE b with ⟨ak,b⟩ | ⟨ak,b⟩
   ·refine CT ak<|Wk ?_
    cases b
    exact ⟨d,rfl,rfl,S⟩
   refine CF ak<|Ws<|Wg<|Me c 124<|A<|We ?_
   rcases condE b with ⟨al,b⟩ | ⟨al,b⟩
   ·refine CT al<|Wk ?_
    cases b
    exact ⟨d,rfl,rfl,S⟩
   refine CF al<|Wg<|Me c 126<|A<|We ?_
   cases b
   exact ⟨d,rfl,rfl,S⟩
  rintro f w ⟨u,h6,h8,S⟩
  rcases condE p with ⟨am,p⟩ | ⟨am,p⟩
  ·refine WP.condT h8 am<|Ws<|Wg<|A<|We ?_
   cases p
   exact WP.ret (Rb h S)
  refine WP.condF h8 am<|Wk ?_
  cases p
  exact ⟨u,h6,S⟩
 intro f w hM
 rcases j4 with _ | e
 ·obtain ⟨H1,q,S⟩:=hM
  refine Ws<|Wg<|M' q<|Md c 48<|M ?_
  refine WL.grp 3 [23,24] 25 (boo ((decide (48≤c))&&(decide (c≤57)))) ?_ ?_
  ·rcases boolE (decide (48≤c)) with k | k
   ·refine Gy k<|M' q<|Gy k<|Mb c 57<|Pt k ?_
    exact We ⟨(andT k),ag,rfl⟩
   refine Gn k<|Gn k<|Pf k ?_
   exact We ⟨(andF k),ag,rfl⟩
  intro us
  refine M ?_
  refine WL.grp 7 [27,28,29,30,31,32] 33 (boo (((decide (48≤c))&&(decide (c≤57)))||((decide (65≤c))&&(decide (c≤90))))) ?_ ?_
  ·rcases boolE ((decide (48≤c))&&(decide (c≤57))) with i | i
   ·refine Gn i<|Gn i<|Gn i<|WL.gund rfl rfl<|WL.gund rfl rfl<|Gn i<|Pt i ?_
    exact We ⟨(orT i),ag,rfl⟩
   refine Gy i<|M' q<|Gy i<|Md c 65<|Gy i<|M ?_
   refine WL.grp 3 [30,31] 32 (boo ((decide (65≤c))&&(decide (c≤90)))) ?_ ?_
   ·rcases boolE (decide (65≤c)) with l | l
    ·refine Gy l<|M' q<|Gy l<|Mb c 90<|Gy i<|Pt l ?_
     exact We ⟨(andT l),ag,rfl⟩
    refine Gn l<|Gn l<|Gy i<|Pf l ?_
    exact We ⟨(andF l),ag,rfl⟩
   intro us
   refine Pf i ?_
   exact We ⟨(orF i),ag,rfl⟩
  intro us
  refine M ?_
  refine WL.grp 7 [35,36,37,38,39,40] 41 (boo ((((decide (48≤c))&&(decide (c≤57)))||((decide (65≤c))&&(decide (c≤90))))||((decide (97≤c))&&(decide (c≤122))))) ?_ ?_
  ·rcases boolE (((decide (48≤c))&&(decide (c≤57)))||((decide (65≤c))&&(decide (c≤90)))) with j | j
   ·refine Gn j<|Gn j<|Gn j<|WL.gund rfl rfl<|WL.gund rfl rfl<|Gn j<|Pt j ?_
    exact We ⟨(orT j),ag,rfl⟩
   refine Gy j<|M' q<|Gy j<|Md c 97<|Gy j<|M ?_
   refine WL.grp 3 [38,39] 40 (boo ((decide (97≤c))&&(decide (c≤122)))) ?_ ?_
   ·rcases boolE (decide (97≤c)) with o | o
    ·refine Gy o<|M' q<|Gy o<|Mb c 122<|Gy j<|Pt o ?_
     exact We ⟨(andT o),ag,rfl⟩
    refine Gn o<|Gn o<|Gy j<|Pf o ?_
    exact We ⟨(andF o),ag,rfl⟩
   intro us
   refine Pf j ?_
   exact We ⟨(orF j),ag,rfl⟩
  intro us
  refine A<|We ?_
  exact WP.ret (Rb h S)
 exact hM.elim
theorem zAz {i:World} {d:Hp} (hw:Holds i d) (c:Str) {r:Bool} (h:zA0 c=some r) :
  Cb Tryz.prog 93 [(str c)] i d r:=by
 refine CM 17 Tryz.func93 hw fun S=>?_
 refine Ws<|Wg<|A<|We<|Ws<|Ws<|Wg<|M<|Ns<|M<|We<|B h fun j z h=>WP.cut (fun f w=>match j with | .inl _=>∃ (t:Hp),f 0=(str c)∧St i d w t [] | .inr _=>False) ?_ ?_
 ·refine Wb ?_
  refine WP.loopM (zDj c) (fun s f w=>match s with | u=>∃ (k:Hp),f 0=(str c)∧f 5=(int (c.length:Int))∧f 6=(int u)∧St i d w k []) 0 j z ?_ ?_
  ·exact ⟨d,rfl,rfl,rfl,S⟩
  intro u f w hI y8 b v
  obtain ⟨k,l,x,o,S⟩:=hI
  refine Ws<|Wg<|La' o x<|We<|Ws ?_
  rcases condE b with ⟨p,b⟩ | ⟨p,b⟩
  ·refine CT p<|Wk<|Ws<|Wb<|Ws<|Wg<|M' o<|A<|We<|Ws<|Wg<|M' l ?_
   refine M<|B b fun aa ab b=>Ja ab<|B b fun ah ac b=>W.call S rfl (zLB S.holds aa ac) ?_
   rintro ai aj ad ak S rfl
   refine No<|We ?_
   rcases condE b with ⟨q,b⟩ | ⟨q,b⟩
   ·refine CT q<|Ws<|Wg<|A<|We ?_
    cases b
    obtain rfl:=v
    exact WP.ret (Rb h S)
   refine CF q<|Wk<|Wg<|Lg' o rfl<|M<|We ?_
   cases b
   exact ⟨rfl,⟨ad,l,x,rfl,S⟩⟩
  refine CF p<|Wx ?_
  cases b
  obtain rfl:=v
  exact ⟨k,l,S⟩
 intro f w hM
 rcases j with _ | e
 ·obtain ⟨t,h7,S⟩:=hM
  refine Ws<|Wg<|M' h7<|Nb<|A<|We ?_
  exact WP.ret (Rb h S)
 exact hM.elim
theorem zFA {d:World} {i:Hp} (hw:Holds d i) (j:Str) {r:Gvariants_domain} (h:zCF j=some r) :
  Con Tryz.prog 121 [(str j)] d i (fun H' v=>v=(Tryz.vvariants_domain r)):=by
 refine CM 22 Tryz.func121 hw fun S=>?_
 refine Ws<|Wg<|A<|We<|Ws<|Ws<|Wg<|M<|B h fun t ab h=>W.call S rfl (zGC S.holds j ab) ?_
 rintro v2 w3 u ah S rfl
 refine A<|We<|Ws<|Wg<|M<|We<|B h fun x b h=>WP.cut (fun f w=>match x with | .inl _=>∃ (z:Hp),St d i w z [] | .inr _=>False) ?_ ?_
 ·refine Wb<|Ws<|Wg<|Le<|A<|We ?_
  rcases condE b with ⟨k,b⟩ | ⟨k,b⟩
  ·refine CT k<|Ws<|Wg ?_
   refine WL.w (R.build [] [] bp152 zSL rfl rfl) ?_
   refine WL.w (v:=Tryz.vvariants_domain (.media:Gvariants_domain)) (R.ofEq (R.mkIface rfl Tryz.underlying152 (by intro _ h; cases h)) rfl)<|A<|We ?_
   cases b
   cases h
   refine WP.ret (Out.one rfl S rfl ?_)
   exact rfl
  refine CF k<|Ws<|Wg<|Le<|A<|We ?_
  rcases condE b with ⟨l,b⟩ | ⟨l,b⟩
  ·refine CT l<|Ws<|Wg ?_
   refine WL.w (R.build [] [] bp153 zSK rfl rfl) ?_
   refine WL.w (v:=Tryz.vvariants_domain (.tags:Gvariants_domain)) (R.ofEq (R.mkIface rfl Tryz.underlying153 (by intro _ h; cases h)) rfl)<|A<|We ?_
   cases b
   cases h
   refine WP.ret (Out.one rfl S rfl ?_)
   exact rfl
  refine CF l<|Ws<|Ws<|Wg<|Le<|A<|We<|B b fun ac c b=>WP.cut (fun f w=>∃ (o:Hp),f 3=(int t)∧f 15=(boo ac)∧St d i w o []) ?_ ?_
  ·rcases condE c with ⟨p,c⟩ | ⟨p,c⟩
   ·refine CT p<|Wk ?_
    cases c
    exact ⟨u,rfl,rfl,S⟩
   refine CF p<|Wg<|Le<|A<|We ?_
   cases c
   exact ⟨u,rfl,rfl,S⟩
  rintro f w ⟨o,ad,aa,S⟩
  rcases condE b with ⟨q,b⟩ | ⟨q,b⟩
  ·refine WP.condT aa q<|Ws<|Wg<|M' ad ?_
   refine WL.w (v:=Tryz.vvariants_domain (.words t:Gvariants_domain)) (R.ofEq (R.mkIface rfl Tryz.underlying154 (by intro _ h; cases h)) rfl)<|A<|We ?_
   cases b
   cases h
   refine WP.ret (Out.one rfl S rfl ?_)
   exact rfl
  refine WP.condF aa q<|Wk ?_
  cases b
  exact ⟨o,S⟩
 intro f w hM
 rcases x with _ | e
 ·obtain ⟨z,S⟩:=hM
  refine Ws<|Wg ?_
  refine WL.w (R.build [] [] bp155 zR9 rfl rfl) ?_
  refine WL.w (v:=Tryz.vvariants_domain (.texts:Gvariants_domain)) (R.ofEq (R.mkIface rfl Tryz.underlying155 (by intro _ h; cases h)) rfl)<|A<|We ?_
  cases h
  refine WP.ret (Out.one rfl S rfl ?_)
  exact rfl
 exact hM.elim
end Go.Proofs
