/- A part. -/
import Derived.Test.YtipgfplekgdoiaaGreatDoorEng38
import Derived.Test.YtipgfplekgdoiaaGreatDoorEng36
import Derived.Test.YtipgfplekgdoiaaGreatDoorGenK8
namespace Go.Proofs
set_option maxHeartbeats 4000000
set_option maxRecDepth 10000
open Go.Eng Go.Eng.Pure
set_option linter.unusedVariables false
theorem zFZ {k:World} {d:Hp} (hw:Holds k d) (o:Str) (j:Str) {bp_as:Nat} (i:At d ⟨bp_as,0,none⟩ (setc j)) {r:Str} (h:zBY o j=some r) :
  Cs Tryz.prog 232 [(str o),(ptr bp_as 0)] k d r:=by
 refine CM 22 Tryz.func232 hw fun S=>?_
 refine Ws<|Wg<|A<|We<|Ws<|B h fun t ab h=>WP.cut (fun f w=>∃ (u:Hp),f 0=(str t)∧St k d w u []) ?_ ?_
 ·refine Wb ?_
  refine WP.loopM (zBA j) (fun s f w=>match s with | v=>∃ (l:Hp),f 0=(str v)∧f 1=(ptr bp_as 0)∧At l ⟨bp_as,0,none⟩ (setc j)∧St k d w l []) o t ab ?_ ?_
  ·exact ⟨d,rfl,rfl,i,S⟩
  intro v f w hI y8 b x
  obtain ⟨l,c,z,i,S⟩:=hI
  refine Ws<|Ws<|Wg<|M' c<|Ns<|Lc<|We ?_
  rcases condE b with ⟨p,b⟩ | ⟨p,b⟩
  ·refine CT p<|Wk<|Wb<|Ws<|Ws<|Wg<|M' z<|M' c<|M' c<|Ns<|Lh<|B b fun ac ad b=>Ja ad<|B b fun ak ae b=>W.call S rfl (zCT S.holds j ac i ae) ?_
   rintro al am aa af S rfl
   have i:=At.mono i af (by intro h; have:=congrArg List.length h; rw [zGy] at this; cases this)
   refine No<|We ?_
   rcases condE b with ⟨q,b⟩ | ⟨q,b⟩
   ·refine CT q<|Wx ?_
    obtain rfl:=oi b
    obtain rfl:=x
    exact ⟨aa,c,S⟩
   refine CF q<|Wk<|Wg<|M' c<|M' c<|Ns<|Lh<|B b fun an ah b=>Jd ah<|A<|We ?_
   obtain rfl:=oi b
   exact ⟨rfl,⟨aa,rfl,z,i,S⟩⟩
  refine CF p<|Wx ?_
  obtain rfl:=oi b
  obtain rfl:=x
  exact ⟨l,c,S⟩
 rintro f w ⟨u,h7,S⟩
 refine Ws<|Wg<|M' h7<|A<|We ?_
 exact WP.ret (Rs h S)
theorem zFl {k:World} {c:Hp} (hw:Holds k c) (o:Str) (i:Str) {bp_as:Nat} (d:At c ⟨bp_as,0,none⟩ (setc i)) {r:Str} (h:zBc o i=some r) :
  Cs Tryz.prog 162 [(str o),(ptr bp_as 0)] k c r:=by
 refine CM 16 Tryz.func162 hw fun S=>?_
 refine Ws<|Wg<|A<|We<|Ws<|B h fun t ab h=>WP.cut (fun f w=>∃ (u:Hp),f 0=(str t)∧St k c w u []) ?_ ?_
 ·refine Wb ?_
  refine WP.loopM (zBF i) (fun s f w=>match s with | v=>∃ (l:Hp),f 0=(str v)∧f 1=(ptr bp_as 0)∧At l ⟨bp_as,0,none⟩ (setc i)∧St k c w l []) o t ab ?_ ?_
  ·exact ⟨c,rfl,rfl,d,S⟩
  intro v f w hI y8 b x
  obtain ⟨l,j,z,d,S⟩:=hI
  refine Ws<|Ws<|Wg<|M' j<|Ns<|Lc<|We ?_
  rcases condE b with ⟨p,b⟩ | ⟨p,b⟩
  ·refine CT p<|Wk<|Wb<|Ws<|Ws<|Wg<|M' z<|M' j<|B b fun ac ad b=>Ja ad<|B b fun ak ae b=>W.call S rfl (zCT S.holds i ac d ae) ?_
   rintro al am aa af S rfl
   have d:=At.mono d af (by intro h; have:=congrArg List.length h; rw [zGy] at this; cases this)
   refine No<|We ?_
   rcases condE b with ⟨q,b⟩ | ⟨q,b⟩
   ·refine CT q<|Wx ?_
    obtain rfl:=oi b
    obtain rfl:=x
    exact ⟨aa,j,S⟩
   refine CF q<|Wk<|Wg<|M' j<|B b fun an ah b=>Jc ah<|A<|We ?_
   obtain rfl:=oi b
   exact ⟨rfl,⟨aa,rfl,z,d,S⟩⟩
  refine CF p<|Wx ?_
  obtain rfl:=oi b
  obtain rfl:=x
  exact ⟨l,j,S⟩
 rintro f w ⟨u,h7,S⟩
 refine Ws<|Wg<|M' h7<|A<|We ?_
 exact WP.ret (Rs h S)
theorem zIu {o:World} {p:Hp} (hw:Holds o p) (k:Str) (c:Str) {r:Str} (h:zGl k c=some r) :
  Cs Tryz.prog 197 [(str k),(str c)] o p r:=by
 refine CM 43 Tryz.func197 hw fun S=>?_
 refine Ws<|Wg<|A<|We<|Ws<|Ws<|Wg<|M<|Na<|M ?_
 refine WL.grp 3 [10,11] 12 (boo ((k==[])||(c==[]))) ?_ ?_
 ·rcases boolE (k==[]) with f | f
  ·refine Gn f<|Gn f<|Pt f ?_
   exact We ⟨(orT f),ag,rfl⟩
  refine Gy f<|M<|Gy f<|Na<|Pf f ?_
  exact We ⟨(orF f),ag,rfl⟩
 intro us
 refine We ?_
 rcases condE h with ⟨q,h⟩ | ⟨q,h⟩
 ·refine CT q<|Ws<|Wg<|M<|A<|We ?_
  exact WP.ret (Rs h S)
 refine CF q<|Wk<|Ws<|Ws<|Wg<|M<|Ns<|Le<|M<|B h fun z j h=>WL.grp 4 [18,19,20] 21 (boo z) ?_ ?_
 ·rcases boolE ((c.length:Int)==1) with d | d
  ·replace j:=condT j d
   refine Gy d<|M<|Gy d<|B j fun c6 ab j=>Ja ab<|Gy d<|Ma c6 128<|Pt d ?_
   exact We ⟨(ob j),ag,rfl⟩
  replace j:=condF j d
  refine Gn d<|Gn d<|Gn d<|Pf d ?_
  exact We ⟨(ob j),ag,rfl⟩
 intro us
 refine We ?_
 rcases condE h with ⟨t,h⟩ | ⟨t,h⟩
 ·refine CT t<|Ws<|WP.quiet S kr kr<|QM<|QM<|B h fun ac ad h=>QJa ad<|B h fun u ae h=>WQ.call (v:=str u) rfl (fun w H' hq S=>zFu S.holds k ac ae)<|QM<|B h fun af ah h=>QJa ah<|B h fun ai aj h=>WQ.call (v:=str ai) rfl (fun w H' hq S=>zGI S.holds u af aj)<|QA<|WQ.nil ?_
  intro w9 au av S
  exact WP.ret (Rs h S)
 refine CF t<|Wk<|Ws<|Ws<|Wg<|M<|B h fun aw ak h=>W.call S rfl (zGG S.holds c ak) ?_
 rintro ax ay az a0 S rfl
 refine M ?_
 refine Ex ?_
 refine Ex ?_
 refine W.alloc (List.replicate 256 (boo false)) S zPZ ?_
 intro al a1 S
 refine W.store (i:=0) (setc c) S rfl rfl rfl zOm (show (Lib.setCells c).size=256 by have:=zGy c; simpa [setc] using this) (zOO c) (Nat.le_of_eq (by rw [List.length_replicate])) (zMU ((zGy c).trans (by rw [List.length_replicate]))) ?_
 intro a2 S
 obtain ⟨x,a3,am,_,S⟩:=S.settle (i:=0) rfl
 replace S:St o p _ x []:=S
 have l:At x ⟨al,0,none⟩ (setc c):=⟨_,_,rfl,am,[],by simp⟩
 refine A<|We<|Ws<|Wg<|M<|We<|WP.condT (b:=true) rfl rfl<|Ws<|Wg<|M<|B h fun an ao h=>W.call S rfl (zFZ S.holds k c l ao) ?_
 rintro a4 a5 a6 ap S rfl
 have l:=At.mono l ap (by intro h; have:=congrArg List.length h; rw [zGy] at this; cases this)
 refine B h fun a7 aq h=>W.call S rfl (zFl S.holds an c l aq) ?_
 rintro a8 a9 ba bb S rfl
 refine A<|We ?_
 exact WP.ret (Rs h S)
theorem zEm {c:World} {d:Hp} (hw:Holds c d) (b:Str) {r:Str} (h:zD5 b=some r) :
  Cs Tryz.prog 154 [(str b)] c d r:=by
 refine CM 5 Tryz.func154 hw fun S=>?_
 refine Ws<|Wg<|A<|We<|Ws<|Wg<|M<|B h fun i f h=>W.call S rfl (zIu S.holds b [32,9] f) ?_
 rintro j k l o S rfl
 refine A<|We ?_
 exact WP.ret (Rs h S)
theorem zHb {f:World} {i:Hp} (hw:Holds f i) (b:Str) (c:Str) {r:(Str×Str×Bool)} (h:zFE b c=some r) :
  Con Tryz.prog 130 [(str b),(str c)] f i (fun H' v=>v=(.tuple ⟨[(str r.1),(str r.2.1),(boo r.2.2)]⟩)):=by
 refine CM 23 Tryz.func130 hw fun S=>?_
 refine Ws<|Wg<|A<|A<|A<|We<|Ws<|Ws<|Wg<|M<|M<|B h fun o j h=>W.call S rfl (zEk S.holds b c j) ?_
 rintro p q t u S rfl
 refine A<|We<|Ws<|Wg<|M<|Ld<|We ?_
 rcases condE h with ⟨d,h⟩ | ⟨d,h⟩
 ·refine CT d<|Ws<|WP.quiet S kr kr<|QM<|QM<|B h fun x k h=>QJd k<|QM<|QM<|QM<|QNs<|QLg<|B h fun z l h=>QJc l<|QA<|QA<|QA<|WQ.nil ?_
  intro w7 H8 ac S
  obtain rfl:=oi h
  refine WP.ret (Out.three rfl S rfl rfl rfl ?_)
  exact rfl
 refine CF d<|Wk<|Ws<|Wg<|M<|A<|A<|A<|We ?_
 obtain rfl:=oi h
 refine WP.ret (Out.three rfl S rfl rfl rfl ?_)
 exact rfl
theorem zHB {d:World} {f:Hp} (hw:Holds d f) (b:Str) (c:Str) {r:(Str×Str×Bool)} (h:zFA b c=some r) :
  Con Tryz.prog 101 [(str b),(str c)] d f (fun H' v=>v=(.tuple ⟨[(str r.1),(str r.2.1),(boo r.2.2)]⟩)):=by
 refine CM 13 Tryz.func101 hw fun S=>?_
 refine Ws<|Wg<|A<|A<|A<|We<|Ws<|Wg<|M<|M<|B h fun j i h=>W.call S rfl (zHb S.holds b c i) ?_
 rintro k l o p S rfl
 refine Ex ?_
 refine Ex ?_
 refine Ex<|A<|A<|A<|We ?_
 obtain rfl:=oi h
 refine WP.ret (Out.three rfl S rfl rfl rfl ?_)
 exact rfl
theorem zHt {o:World} {k:Hp} (hw:Holds o k) (l:Str) {r:Bool} (h:zFr l=some r) :
  Cb Tryz.prog 165 [(str l)] o k r:=by
 refine CM 26 Tryz.func165 hw fun S=>?_
 refine Ws<|Wg<|A<|We<|Ws<|Ws<|Wg<|M<|Ns<|M<|We<|B h fun t af h=>WP.cut (fun f w=>match t with | .inl _=>∃ (z:Hp),St o k w z [] | .inr _=>False) ?_ ?_
 ·refine Wb ?_
  refine WP.loopM (zDt l) (fun s f w=>match s with | aa=>∃ (p:Hp),f 0=(str l)∧f 5=(int (l.length:Int))∧f 6=(int aa)∧St o k w p []) 0 t af ?_ ?_
  ·exact ⟨k,rfl,rfl,rfl,S⟩
  intro aa f w hI y7 b ab
  obtain ⟨p,q,h3,u,S⟩:=hI
  refine Ws<|Wg<|La' u h3<|We<|Ws ?_
  rcases condE b with ⟨v,b⟩ | ⟨v,b⟩
  ·refine CT v<|Wk<|Ws<|Wb<|Ws<|Wg<|M' u<|A<|We<|Ws<|Wg<|M' q ?_
   refine M<|B b fun ad ah b=>Ja ah<|Ma ad 32<|M<|B b fun ae i b=>WL.grp 5 [14,15,16,17] 18 (boo ae) ?_ ?_
   ·rcases boolE (decide (ad<32)) with c | c
    ·replace i:=condT i c
     refine Gy c<|M' q<|Gy c<|M<|Gy c<|B i fun ai aj i=>Ja aj<|Gy c<|Mf ai 9<|Pt c ?_
     exact We ⟨(ob i),ag,rfl⟩
    replace i:=condF i c
    refine Gn c<|Gn c<|Gn c<|Gn c<|Pf c ?_
    exact We ⟨(ob i),ag,rfl⟩
   intro us
   refine M<|B b fun ak j b=>WL.grp 5 [20,21,22,23] 24 (boo ak) ?_ ?_
   ·rcases boolE ae with d | d
    ·replace j:=condT j d
     refine Gn d<|Gn d<|Gn d<|Gn d<|Pt d ?_
     exact We ⟨(ob j),ag,rfl⟩
    replace j:=condF j d
    refine Gy d<|M' q<|Gy d<|M<|Gy d<|B j fun al am j=>Ja am<|Gy d<|Me al 127<|Pf d ?_
    exact We ⟨(ob j),ag,rfl⟩
   intro us
   refine We ?_
   rcases condE b with ⟨x,b⟩ | ⟨x,b⟩
   ·refine CT x<|Ws<|Wg<|A<|We ?_
    obtain rfl:=oi b
    obtain rfl:=ab
    exact WP.ret (Rb h S)
   refine CF x<|Wk<|Wg<|Lg' u rfl<|M<|We ?_
   obtain rfl:=oi b
   exact ⟨rfl,⟨p,q,h3,rfl,S⟩⟩
  refine CF v<|Wx ?_
  obtain rfl:=oi b
  obtain rfl:=ab
  exact ⟨p,S⟩
 intro f w hM
 rcases t with _ | e
 ·obtain ⟨z,S⟩:=hM
  refine Ws<|Wg<|A<|We ?_
  exact WP.ret (Rb h S)
 exact hM.elim
theorem zIT {x:World} {p:Hp} (hw:Holds x p) (ae:Str) {r:(Str×Bool)} (h:zDa ae=some r) :
  Con Tryz.prog 134 [(str ae)] x p (fun H' v=>v=(.tuple ⟨[(str r.1),(boo r.2)]⟩)):=by
 refine CM 64 Tryz.func134 hw fun S=>?_
 refine Ws<|Wg<|A<|A<|We<|Ws<|Ws<|Wg<|M<|Ns<|La<|M<|B h fun b4 q h=>WL.grp 4 [11,12,13] 14 (boo b4) ?_ ?_
 ·rcases boolE (decide ((ae.length:Int)<2)) with k | k
  ·replace q:=condT q k
   refine Gn k<|Gn k<|Gn k<|Pt k ?_
   exact We ⟨(ob q),ag,rfl⟩
  replace q:=condF q k
  refine Gy k<|M<|Gy k<|B q fun c3 a4 q=>Ja a4<|Gy k<|Mf c3 34<|Pf k ?_
  exact We ⟨(ob q),ag,rfl⟩
 intro us
 refine M<|B h fun b8 t h=>WL.grp 7 [16,17,18,19,20,21] 22 (boo b8) ?_ ?_
 ·rcases boolE b4 with c | c
  ·replace t:=condT t c
   refine Gn c<|Gn c<|Gn c<|Gn c<|Gn c<|Gn c<|Pt c ?_
   exact We ⟨(ob t),ag,rfl⟩
  replace t:=condF t c
  refine Gy c<|M<|Gy c<|M<|Gy c<|Ns<|Gy c<|Lh<|Gy c<|B t fun c7 a6 t=>Ja a6<|Gy c<|Mf c7 34<|Pf c ?_
  exact We ⟨(ob t),ag,rfl⟩
 intro us
 refine M<|B h fun a7 l h=>WL.grpw 8 [24,25,26,27,28,29,30] 31 (boo a7) (fun w=>∃ H':Hp,p.le H'∧St x p w H' []) ?_ ?_
 ·rcases boolE b8 with b | b
  ·replace l:=condT l b
   refine Gn b<|Gn b<|Gn b<|Gn b<|Gn b<|Gn b<|Gn b<|Pt b ?_
   exact We ⟨(ob l),ag,⟨p,lr,S⟩⟩
  replace l:=condF l b
  refine Gy b<|M<|Gy b<|M<|Gy b<|Ns<|Gy b<|Lh<|Gy b<|B l fun a8 a9 l=>Jb a9<|Gy b<|B l fun bu ba l=>W.call S rfl (zHt S.holds a8 ba) ?_
  rintro bv bw bb bc S rfl
  refine Gy b<|No<|Pf b ?_
  exact We ⟨(ob l),ag,⟨bb,bc,S⟩⟩
 intro us bx ⟨bd,bz,S⟩
 refine We ?_
 rcases condE h with ⟨af,h⟩ | ⟨af,h⟩
 ·refine CT af<|Ws<|Wg<|A<|A<|We ?_
  obtain rfl:=oi h
  refine WP.ret (Out.two rfl S rfl rfl ?_)
  exact rfl
 refine CF af<|Wk<|Ws<|Wg<|M<|M<|Ns<|Lh<|B h fun ah be h=>Jb be<|A<|We<|Ws<|Wg<|A<|We<|Ws<|Ws<|Wg<|A<|We ?_
 have S:=S.addNil 5 1
 refine B h fun ai bf h=>WP.cut (fun f w=>match ai with | .inl aj=>∃ (ak:Hp) (ac:Value),f 5=ac∧Sl ak ac aj∧St x p w ak [.row ac 5 1 aj.length] | .inr _=>False) ?_ ?_
 ·refine Wb ?_
  refine WP.loopM (zAh ah) (fun s f w=>match s with | (aa,aw)=>∃ (z:Hp) (u:Value),f 4=(str ah)∧f 5=u∧f 6=(int aw)∧Sl z u aa∧St x p w z [.row u 5 1 aa.length]) (([]:List UInt8),0) ai bf ?_ ?_
  ·exact ⟨bd,.slice none 0 0,rfl,rfl,rfl,Sl.nil,S⟩
  intro s f w hI b0 d al
  obtain ⟨aa,aw⟩:=s
  obtain ⟨z,u,ab,am,ad,o,S⟩:=hI
  refine Ws<|Ws<|Wg<|M' ad<|M' ab<|Ns<|La<|We ?_
  rcases condE d with ⟨an,d⟩ | ⟨an,d⟩
  ·refine CT an<|Wk<|Ws<|Wb<|Ws<|Ws<|Wg<|M' ab<|M' ad<|B d fun ax bg d=>Ja bg<|We<|B d fun ay j d=>WP.cut (fun f w=>match ay with | .inl az=>∃ (ao:Hp),f 4=(str ah)∧f 5=u∧f 6=(int az)∧Sl ao u aa∧St x p w ao [.row u 5 1 aa.length] | .inr _=>False) ?_ ?_
   ·refine Wb<|Ws<|Wg<|Me ax 34<|A<|We ?_
    rcases condE j with ⟨ap,j⟩ | ⟨ap,j⟩
    ·refine CT ap<|Ws<|Wg<|A<|A<|We ?_
     obtain rfl:=oi j
     obtain rfl:=oi d
     obtain rfl:=al
     obtain rfl:=oi h
     refine WP.ret (Out.two rfl S rfl rfl ?_)
     exact rfl
    refine CF ap<|Ws<|Wg<|Me ax 92<|A<|We ?_
    rcases condE j with ⟨aq,j⟩ | ⟨aq,j⟩
    ·refine CT aq<|Ws<|Wg<|M' ad<|Lg<|A<|We<|Ws<|Wg<|M<|M' ab<|Ns ?_
     refine Le<|We ?_
     rcases condE j with ⟨ar,j⟩ | ⟨ar,j⟩
     ·refine CT ar<|Ws<|Wg<|A<|A<|We ?_
      obtain rfl:=oi j
      obtain rfl:=oi d
      obtain rfl:=al
      obtain rfl:=oi h
      refine WP.ret (Out.two rfl S rfl rfl ?_)
      exact rfl
     refine CF ar<|Wk ?_
     obtain rfl:=oi j
     exact ⟨z,ab,am,rfl,o,S⟩
    refine CF aq<|Wk ?_
    obtain rfl:=oi j
    exact ⟨z,ab,am,ad,o,S⟩
   intro f w hM
   rcases ay with az | e
   ·obtain ⟨ao,a0,bh,a1,o,S⟩:=hM
    refine Wg<|M' bh<|M' a0<|M' a1<|B d fun a2 bi d=>Ja bi<|W.bslice (α:=UInt8) [(byt a2)] ([a2]:List UInt8) S el128 rfl rfl rfl (by decide) (Go.Eng.encS ⟨rfl,rfl⟩ enc0) ?_
    intro b1 b2 b3 bj bk S
    have o:=o.up bj
    refine B d fun b5 bn d=>W.app (α:=UInt8) (i:=1) S el128 rfl rfl rfl o bk bn ?_
    intro bo b6 bp bq br S
    have o:=o.up bq
    refine A<|We<|Wg<|M' a1<|Lg<|A<|We ?_
    obtain rfl:=oi d
    exact ⟨rfl,⟨bp,bo,a0,rfl,rfl,br,(S.pk [1])⟩⟩
   exact hM.elim
  refine CF an<|Wx ?_
  obtain rfl:=oi d
  obtain rfl:=al
  exact ⟨z,u,am,o,S⟩
 intro f w hM
 rcases ai with aj | e
 ·obtain ⟨ak,ac,bs,bt,S⟩:=hM
  refine Ws<|Wg<|M' bs ?_
  refine WL.w (R.strL S bt rfl Tryz.underlying128 Tryz.underlying9 Tryz.underlying5)<|A<|A<|We ?_
  obtain rfl:=oi h
  refine WP.ret (Out.two rfl S rfl rfl ?_)
  exact rfl
 exact hM.elim
theorem zKU {j:World} {k:Hp} (hw:Holds j k) (l:Str) {r:(Str×Str×Bool)} (h:zH2 l=some r) :
  Con Tryz.prog 242 [(str l)] j k (fun H' v=>v=(.tuple ⟨[(str r.1),(str r.2.1),(boo r.2.2)]⟩)):=by
 refine CM 33 Tryz.func242 hw fun S=>?_
 refine Ws<|Wg<|A<|A<|A<|We<|Ws<|Wg<|M<|B h fun i u h=>W.call S rfl (zHB S.holds l [61] u) ?_
 rintro v2 w3 q ap S rfl
 refine M ?_
 refine Ex ?_
 refine Ex ?_
 refine Ex<|A<|A<|A<|We<|Ws<|Ws<|Wg<|M ?_
 refine No<|M<|B h fun x c h=>WL.grpw 4 [17,18,19] 20 (boo x) (fun w=>∃ H':Hp,q.le H'∧St j k w H' []) ?_ ?_
 ·rcases boolE (!i.2.2) with b | b
  ·replace c:=condT c b
   refine Gn b<|Gn b<|Gn b<|Pt b ?_
   exact We ⟨(ob c),ag,⟨q,lr,S⟩⟩
  replace c:=condF c b
  refine Gy b<|M<|Gy b<|B c fun r8 z c=>W.call S rfl (zAx S.holds i.1 z) ?_
  rintro v9 au aa ab S rfl
  refine Gy b<|No<|Pf b ?_
  exact We ⟨(ob c),ag,⟨aa,ab,S⟩⟩
 intro us av ⟨aw,ax,S⟩
 refine We ?_
 rcases condE h with ⟨o,h⟩ | ⟨o,h⟩
 ·refine CT o<|Ws<|Wg<|A<|A<|A<|We ?_
  obtain rfl:=oi h
  refine WP.ret (Out.three rfl S rfl rfl rfl ?_)
  exact rfl
 refine CF o<|Wk<|Ws<|Ws<|Wg<|M<|B h fun ay ac h=>W.call S rfl (zAx S.holds i.2.1 ac) ?_
 rintro az a0 ad a1 S rfl
 refine No<|We ?_
 obtain ⟨⟨ae,af⟩,d,h⟩:=bindE h
 refine WP.cut (fun f w=>∃ (t:Hp),f 5=(str i.1)∧f 6=(str ae)∧f 7=(boo af)∧St j k w t []) ?_ ?_
 ·rcases condE d with ⟨p,d⟩ | ⟨p,d⟩
  ·refine CT p<|Wg<|M<|B d fun a2 ah d=>W.call S rfl (zIT S.holds i.2.1 ah) ?_
   rintro a3 a4 ai a5 S rfl
   refine M ?_
   refine Ex ?_
   refine Ex<|A<|A<|We ?_
   cases oi d
   exact ⟨ai,rfl,rfl,rfl,S⟩
  refine CF p<|Wk ?_
  cases oi d
  exact ⟨ad,rfl,rfl,rfl,S⟩
 rintro f w ⟨t,aj,ak,al,S⟩
 refine Ws<|Wg<|M' aj<|B h fun a6 am h=>W.call S rfl (zAe S.holds i.1 am) ?_
 rintro a7 a8 a9 ba S rfl
 refine M' ak<|M' al<|A<|A<|A<|We ?_
 obtain rfl:=oi h
 refine WP.ret (Out.three rfl S rfl rfl rfl ?_)
 exact rfl
theorem zHE {o:World} {p:Hp} (hw:Holds o p) (x:Str) {r:(Str×(List GParam)×Bool)} (h:zE5 x=some r) :
  Con Tryz.prog 215 [(str x)] o p (fun H' v=>∃ u1:Value,v=(.tuple ⟨[(str r.1),u1,(boo r.2.2)]⟩)∧Sl H' u1 r.2.1):=by
 refine CM 49 Tryz.func215 hw fun S=>?_
 refine Ws<|Wg<|A<|A<|A<|We<|Ws<|Wg<|M<|B h fun r1 au h=>W.call S rfl (zKk S.holds x au) ?_
 rintro v2 w3 H4 bt S q
 refine A<|We<|Ws<|Wg<|M<|B h fun x7 aw h=>W.idx (α:=Str) q rfl rfl el34 aw ?_
 rintro a8 _ ax rfl
 refine Lq S ax<|B h fun ao ay h=>W.call S rfl (zEm S.holds x7 ay) ?_
 rintro bv bw az a0 S rfl
 have q:=q.up a0
 refine A<|We<|Ws<|Ws<|Wg<|M<|Na<|We ?_
 rcases condE h with ⟨z,h⟩ | ⟨z,h⟩
 ·refine CT z<|Ws<|Wg<|A<|A<|A<|We ?_
  obtain rfl:=oi h
  refine WP.ret (Out.three rfl S rfl rfl rfl ?_)
  exact ⟨_,rfl,Sl.nil⟩
 refine CF z<|Wk<|Ws<|Wg<|A<|We<|Ws<|Ws<|Wg<|M<|B h fun aa a1 h=>W.subLo (α:=Str) q rfl rfl el34 a1 ?_
 intro ap c
 refine Nq c<|M<|We ?_
 have S:=S.addNil 161 2
 refine B h fun ab a2 h=>WP.cut (fun f w=>match ab with | .inl ac=>∃ (ad:Hp) (t:Value),f 6=(str ao)∧f 7=t∧Sl ad t ac∧St o p w ad [.row t 161 2 ac.length] | .inr _=>False) ?_ ?_
 ·refine Wb ?_
  refine WP.loopM (zDA aa) (fun s f w=>match s with | (ae,aq)=>∃ (l:Hp) (k:Value),f 6=(str ao)∧f 7=k∧f 22=ap∧f 23=(int (aa.length:Int))∧f 24=(int aq)∧Sl l k ae∧Sl l ap aa∧St o p w l [.row k 161 2 ae.length]) (([]:List GParam),0) ab a2 ?_ ?_
  ·exact ⟨az,.slice none 0 0,rfl,rfl,rfl,rfl,rfl,Sl.nil,c,S⟩
  intro s f w hI bx b ar
  obtain ⟨ae,aq⟩:=s
  obtain ⟨l,k,af,ah,ai,aj,u,d,c,S⟩:=hI
  refine Ws<|Wg<|La' u aj<|We<|Ws ?_
  rcases condE b with ⟨ak,b⟩ | ⟨ak,b⟩
  ·refine CT ak<|Wk<|Ws<|Wb<|Ws<|Wg<|B b fun a3 a4 b=>W.idx (α:=Str) c ai u el34 a4 ?_
   rintro bz _ a5 rfl
   refine Lq S a5<|A<|We<|Ws<|Wg<|M<|B b fun a6 a7 b=>W.call S rfl (zEm S.holds a3 a7) ?_
   rintro b0 b1 a9 ba S rfl
   have ⟨d,c⟩:=U2 ba d c
   refine A<|We<|Ws<|Ws<|Wg<|M<|Na<|We ?_
   rcases condE b with ⟨al,b⟩ | ⟨al,b⟩
   ·refine CT al<|Wx<|Wg<|Lg' u rfl<|M<|We ?_
    obtain rfl:=oi b
    exact ⟨rfl,⟨a9,k,af,ah,ai,aj,rfl,d,c,S⟩⟩
   refine CF al<|Wk<|Ws<|Wg<|M<|B b fun j bb b=>W.call S rfl (zKU S.holds a6 bb) ?_
   rintro b2 b3 b4 bc S rfl
   have ⟨d,c⟩:=U2 bc d c
   refine M ?_
   refine Ex ?_
   refine Ex ?_
   refine Ex<|A<|A<|A<|We<|Ws<|Ws<|Wg<|M ?_
   refine No<|We ?_
   rcases condE b with ⟨am,b⟩ | ⟨am,b⟩
   ·refine CT am<|Ws<|Wg<|A<|A<|A<|We ?_
    obtain rfl:=oi b
    obtain rfl:=ar
    obtain rfl:=oi h
    refine WP.ret (Out.three rfl S rfl rfl rfl ?_)
    exact ⟨_,rfl,Sl.nil⟩
   refine CF am<|Wk<|Wg<|M' ah<|M<|M ?_
   refine WL.w (R.build [(0,(str j.1)),(1,(str j.2.1))] [(str j.1),(str j.2.1)] bp161 zJb rfl rfl)<|W.bslice (α:=GParam) [(agg [(str j.1),(str j.2.1)])] ([(⟨j.1,j.2.1⟩:GParam)]:List GParam) S el156 rfl rfl rfl (by decide) (Go.Eng.encS ⟨rfl,rfl⟩ enc0) ?_
   intro b5 b6 b7 bd be S
   have ⟨d,c⟩:=U2 bd d c
   refine B b fun b8 bf b=>W.app (α:=GParam) (i:=1) S el156 rfl rfl rfl d be bf ?_
   intro bg b9 bh bi bj S
   have ⟨d,c⟩:=U2 bi d c
   refine A<|We<|Wg<|Lg' u rfl<|M<|We ?_
   obtain rfl:=oi b
   exact ⟨rfl,⟨bh,bg,af,rfl,ai,aj,rfl,bj,c,(S.pk [1])⟩⟩
  refine CF ak<|Wx ?_
  obtain rfl:=oi b
  obtain rfl:=ar
  exact ⟨l,k,af,ah,d,S⟩
 intro f w hM
 rcases ab with ac | e
 ·obtain ⟨ad,t,bk,bn,bo,S⟩:=hM
  refine Ws<|Wg<|M' bk<|M' bn<|A<|A<|A<|We ?_
  obtain rfl:=oi h
  refine WP.ret (Out.three rfl S rfl rfl rfl ?_)
  exact ⟨_,rfl,bo⟩
 exact hM.elim
theorem zB4 {t:World} {u:Hp} (hw:Holds t u) (x:Str) {r:(GMediaType×Bool)} (h:zA0 x=some r) :
  Con Tryz.prog 244 [(str x)] t u (fun H' v=>∃ u1:Value,v=(.tuple ⟨[(agg [(str r.1.fType),(str r.1.fSub),u1]),(boo r.2)]⟩)∧Sl H' u1 r.1.fParams):=by
 refine CM 48 Tryz.func244 hw fun S=>?_
 refine Ws<|Wg ?_
 refine W.alloc [(str []),(str []),(.slice none 0 0)] S zDq ?_
 intro b1 w2 S
 refine A<|We<|Ws<|Wg<|M<|B h fun r3 ai h=>W.call S rfl (zHE S.holds x ai) ?_
 rintro v4 w5 H6 a1 S ⟨o,rfl,b⟩
 refine M ?_
 refine Ex ?_
 refine Ex ?_
 refine Ex<|A<|A<|A<|We<|Ws<|Ws<|Wg<|M ?_
 refine No<|We ?_
 rcases condE h with ⟨z,h⟩ | ⟨z,h⟩
 ·refine CT z<|Ws<|Wg ?_
  refine WL.w (R.build [] [(str []),(str []),(.slice none 0 0)] bp158 zDq rfl rfl) ?_
  refine W.store (i:=0) [(str []),(str []),(.slice none 0 0)] S rfl rfl rfl zBJ rfl (AllOne.all (l:=[(str []),(str []),(.slice none 0 0)]) (.cons rfl (.cons rfl (.cons rfl .nil)))) (Nat.le_of_ble_eq_true rfl) rfl ?_
  intro a2 S
  refine A<|We ?_
  obtain rfl:=oi h
  refine WP.ret (Out.two rfl S (Res.cellB (i:=0) (cs:=[(str []),(str []),(.slice none 0 0)]) S rfl rfl zBJ rfl rfl) rfl ?_)
  exact ⟨_,rfl,Sl.nil⟩
 refine CF z<|Wk<|Ws<|Wg<|M<|B h fun f aj h=>W.call S rfl (zHB S.holds r3.1 [47] aj) ?_
 rintro a3 a4 a5 ak S rfl
 have b:=b.up ak
 refine M ?_
 refine Ex ?_
 refine Ex ?_
 refine Ex<|A<|A<|A<|We<|Ws<|Ws<|Wg<|M<|B h fun al am h=>W.call S rfl (zAx S.holds f.1 am) ?_
 rintro a6 a7 ad an S rfl
 have b:=b.up an
 refine No<|M<|B h fun aa k h=>WL.grpw 4 [29,30,31] 32 (boo aa) (fun w=>∃ H':Hp,ad.le H'∧St t u w H' [.box b1 158 [(str []),(str []),(.slice none 0 0)]]) ?_ ?_
 ·rcases boolE (!al) with d | d
  ·replace k:=condT k d
   refine Gn d<|Gn d<|Gn d<|Pt d ?_
   exact We ⟨(ob k),ag,⟨ad,lr,S⟩⟩
  replace k:=condF k d
  refine Gy d<|M<|Gy d<|B k fun a8 ao k=>W.call S rfl (zAx S.holds f.2.1 ao) ?_
  rintro a9 ba ap ae S rfl
  have b:=b.up ae
  refine Gy d<|No<|Pf d ?_
  exact We ⟨(ob k),ag,⟨ap,ae,S⟩⟩
 intro us bb ⟨bc,aq,S⟩
 have b:=b.up aq
 refine M ?_
 refine WL.grp 7 [34,35,36,37,38,39] 40 (boo (aa||((f.1==[42])&&(f.2.1 !=[42])))) ?_ ?_
 ·rcases boolE aa with c | c
  ·refine Gn c<|Gn c<|Gn c<|WL.gund rfl rfl<|WL.gund rfl rfl<|Gn c<|Pt c ?_
   exact We ⟨(orT c),ag,rfl⟩
  refine Gy c<|M<|Gy c<|Na<|Gy c<|M ?_
  refine WL.grp 3 [37,38] 39 (boo ((f.1==[42])&&(f.2.1 !=[42]))) ?_ ?_
  ·rcases boolE (f.1==[42]) with j | j
   ·refine Gy j<|M<|Gy j<|Nb<|Gy c<|Pt j ?_
    exact We ⟨(andT j),ag,rfl⟩
   refine Gn j<|Gn j<|Gy c<|Pf j ?_
   exact We ⟨(andF j),ag,rfl⟩
  intro us
  refine Pf c ?_
  exact We ⟨(orF c),ag,rfl⟩
 intro us
 refine We ?_
 rcases condE h with ⟨ab,h⟩ | ⟨ab,h⟩
 ·refine CT ab<|Ws<|Wg ?_
  refine WL.w (R.build [] [(str []),(str []),(.slice none 0 0)] bp158 zDq rfl rfl) ?_
  refine W.store (i:=0) [(str []),(str []),(.slice none 0 0)] S rfl rfl rfl zBJ rfl (AllOne.all (l:=[(str []),(str []),(.slice none 0 0)]) (.cons rfl (.cons rfl (.cons rfl .nil)))) (Nat.le_of_ble_eq_true rfl) rfl ?_
  intro bd S
  refine A<|We ?_
  obtain rfl:=oi h
  refine WP.ret (Out.two rfl S (Res.cellB (i:=0) (cs:=[(str []),(str []),(.slice none 0 0)]) S rfl rfl zBJ rfl rfl) rfl ?_)
  exact ⟨_,rfl,Sl.nil⟩
 refine CF ab<|Wk<|Ws<|Wg<|M<|B h fun p ar h=>W.call S rfl (zAe S.holds f.1 ar) ?_
 rintro be bf bg au S rfl
 have b:=b.up au
 refine M<|B h fun q av h=>W.call S rfl (zAe S.holds f.2.1 av) ?_
 rintro bh bi bj aw S rfl
 have b:=b.up aw
 refine M ?_
 refine WL.w (R.build [(0,(str p)),(1,(str q)),(2,o)] [(str p),(str q),o] bp158 zDq rfl (by obtain ⟨_,_,rfl,_⟩:=b; rfl)) ?_
 refine W.store (i:=0) [(str p),(str q),o] S rfl rfl rfl zBJ rfl (AllOne.all (l:=[(str p),(str q),o]) (.cons rfl (.cons rfl (.cons (Sl.oneC b) .nil)))) (Nat.le_of_ble_eq_true rfl) rfl ?_
 intro bk S
 refine A<|We ?_
 obtain rfl:=oi h
 refine WP.ret (Out.two rfl S (Res.cellB (i:=0) (cs:=[(str p),(str q),o]) S rfl rfl zBJ rfl rfl) rfl ?_)
 exact ⟨_,rfl,b⟩
theorem zFL {p:World} {q:Hp} (hw:Holds p q) (j:Str) {r:(GMediaType×Bool)} (h:zCg j=some r) :
  Con Tryz.prog 249 [(str j)] p q (fun H' v=>∃ t:Value,v=(.tuple ⟨[(agg [(str r.1.fType),(str r.1.fSub),t]),(boo r.2)]⟩)∧Sl H' t r.1.fParams):=by
 refine CM 25 Tryz.func249 hw fun S=>?_
 refine Ws<|Wg ?_
 refine W.alloc [(str []),(str []),(.slice none 0 0)] S zDq ?_
 intro x z S
 refine A<|We<|Ws<|Wg<|M<|B h fun b u h=>W.call S rfl (zB4 S.holds j u) ?_
 rintro v4 w5 H6 ad S ⟨f,rfl,k⟩
 refine M ?_
 refine Ex ?_
 refine Ex ?_
 refine W.alloc [(str []),(str []),(.slice none 0 0)] S zDq ?_
 intro ae af S
 refine W.store (i:=0) [(str b.1.fType),(str b.1.fSub),f] S rfl rfl rfl zBJ rfl (AllOne.all (l:=[(str b.1.fType),(str b.1.fSub),f]) (.cons rfl (.cons rfl (.cons (Sl.oneC k) .nil)))) (Nat.le_of_ble_eq_true rfl) rfl ?_
 intro ah S
 refine A<|We<|Ws<|Ws<|Wg<|M<|No<|M ?_
 refine WL.grp 4 [14,15,16] 17 (boo ((!b.2)||(b.1.fType==[42]))) ?_ ?_
 ·rcases boolE (!b.2) with c | c
  ·refine Gn c<|Gn c<|Gn c<|Pt c ?_
   exact We ⟨(orT c),ag,rfl⟩
  refine Gy c<|Fb<|Gy c ?_
  refine Lo 0 S<|Gy c<|Na<|Pf c ?_
  exact We ⟨(orF c),ag,rfl⟩
 intro us
 refine M ?_
 refine WL.grp 4 [19,20,21] 22 (boo (((!b.2)||(b.1.fType==[42]))||(b.1.fSub==[42]))) ?_ ?_
 ·rcases boolE ((!b.2)||(b.1.fType==[42])) with d | d
  ·refine Gn d<|Gn d<|Gn d<|Pt d ?_
   exact We ⟨(orT d),ag,rfl⟩
  refine Gy d<|Fb<|Gy d ?_
  refine Lo 0 S<|Gy d<|Na<|Pf d ?_
  exact We ⟨(orF d),ag,rfl⟩
 intro us
 refine We ?_
 rcases condE h with ⟨o,h⟩ | ⟨o,h⟩
 ·refine CT o<|Ws<|Wg ?_
  refine WL.w (R.build [] [(str []),(str []),(.slice none 0 0)] bp158 zDq rfl rfl) ?_
  refine W.store (i:=1) [(str []),(str []),(.slice none 0 0)] S rfl rfl rfl zBJ rfl (AllOne.all (l:=[(str []),(str []),(.slice none 0 0)]) (.cons rfl (.cons rfl (.cons rfl .nil)))) (Nat.le_of_ble_eq_true rfl) rfl ?_
  intro ai S
  refine A<|We ?_
  obtain rfl:=oi h
  refine WP.ret (Out.two rfl S (Res.cellB (i:=1) (cs:=[(str []),(str []),(.slice none 0 0)]) S rfl rfl zBJ rfl rfl) rfl ?_)
  exact ⟨_,rfl,Sl.nil⟩
 refine CF o<|Wk<|Ws<|Wg ?_
 refine WL.w (R.loadBN (i:=0) (vs:=[(str b.1.fType),(str b.1.fSub),f]) S rfl rfl zBJ rfl rfl) ?_
 refine W.store (i:=1) [(str b.1.fType),(str b.1.fSub),f] S rfl rfl rfl zBJ rfl (AllOne.all (l:=[(str b.1.fType),(str b.1.fSub),f]) (.cons rfl (.cons rfl (.cons (Sl.oneC k) .nil)))) (Nat.le_of_ble_eq_true rfl) rfl ?_
 intro aj S
 refine A<|We ?_
 obtain rfl:=oi h
 refine WP.ret (Out.two rfl S (Res.cellB (i:=1) (cs:=[(str b.1.fType),(str b.1.fSub),f]) S rfl rfl zBJ rfl rfl) rfl ?_)
 exact ⟨_,rfl,k⟩
theorem zFh {f:World} {c:Hp} (hw:Holds f c) (b:GParam) (d:GParam) {i:Addr} (j:At c i [(str d.fName),(str d.fValue)]) {r:Bool} (h:zBj b d=some r) :
  Cb Tryz.prog 290 [(agg [(str b.fName),(str b.fValue)]),(.pointer (some i))] f c r:=by
 refine CM 9 Tryz.func290 hw fun S=>?_
 refine Ws<|Wg ?_
 refine W.box [(str b.fName),(str b.fValue)] S rfl rfl ?_
 intro l o S
 refine A<|We<|Ws<|Wg<|Fb ?_
 refine Lo 0 S<|Fc ?_
 have k:=At.add j 0 (by simp)
 refine Lq S k<|Na<|A<|We ?_
 exact WP.ret (Rb h S)
theorem zBE {j:World} {c:Hp} (hw:Holds j c) (i:(List GParam)) (o:(GParam→Option Bool)) {k:Value} {kp_f:FuncId} {cp_f:List Value} (d:Sl c k i) (Fp_f:∀ {w:World} {H:Hp},c.le H→Holds w H→∀ (p:GParam) (rr:Bool),o p=some rr→Con Tryz.prog kp_f ([(agg [(str p.fName),(str p.fValue)])]++cp_f) w H (fun H' v=>v=(boo rr))) {r:Int} (h:zAS i o=some r) :
  Ci Tryz.prog 216 [k,(.func (.func kp_f) #[] cp_f.toArray)] j c r:=by
 refine CM 19 Tryz.func216 hw fun S=>?_
 refine Ws<|Wg<|A<|We<|Ws<|Ws<|Wg<|M<|Nq d<|M<|We<|B h fun q ah h=>WP.cut (fun f w=>match q with | .inl _=>∃ (H7:Hp),St j c w H7 [] | .inr _=>False) ?_ ?_
 ·refine Wb ?_
  refine WP.loopM (zAK i o) (fun s f w=>match s with | ab=>∃ (l:Hp),f 0=k∧f 1=(.func (.func kp_f) #[] cp_f.toArray)∧f 7=(int (i.length:Int))∧f 8=(int ab)∧Sl l k i∧St j c w l []) 0 q ah ?_ ?_
  ·exact ⟨c,rfl,rfl,rfl,rfl,d,S⟩
  intro ab f w hI y8 b ac
  obtain ⟨l,h2,h3,h4,t,d,S⟩:=hI
  refine Ws<|Wg<|La' t h4<|We<|Ws ?_
  rcases condE b with ⟨u,b⟩ | ⟨u,b⟩
  ·refine CT u<|Wk<|Ws<|Wb<|Ws<|Wg<|M' t<|A<|We<|Ws<|Wg<|M' h3 ?_
   refine M' h2<|M<|B b fun x ai b=>W.idx (α:=GParam) d rfl rfl el156 ai ?_
   rintro ao _ aj rfl
   refine WL.w (R.loadHN (vs:=[(str x.fName),(str x.fValue)]) S rfl aj zGm rfl rfl)<|B b fun ap ak b=>W.callv S rfl rfl (Fp_f (S.post.le) S.holds x _ ak) ?_
   rintro aq ar al am S rfl
   have d:=d.up am
   refine We ?_
   rcases condE b with ⟨z,b⟩ | ⟨z,b⟩
   ·refine CT z<|Ws<|Wg<|M<|A<|We ?_
    obtain rfl:=oi b
    obtain rfl:=ac
    exact WP.ret (Ri h S)
   refine CF z<|Wk<|Wg<|Lg' t rfl<|M<|We ?_
   obtain rfl:=oi b
   exact ⟨rfl,⟨al,h2,h3,h4,rfl,d,S⟩⟩
  refine CF u<|Wx ?_
  obtain rfl:=oi b
  obtain rfl:=ac
  exact ⟨l,S⟩
 intro f w hM
 rcases q with _ | e
 ·obtain ⟨H7,S⟩:=hM
  refine Ws<|Wg<|A<|We ?_
  exact WP.ret (Ri h S)
 exact hM.elim
theorem zCC {i:World} {b:Hp} (hw:Holds i b) (c:(List GParam)) (d:(GParam→Option Bool)) {j:Value} {kp_f:FuncId} {cp_f:List Value} (k:Sl b j c) (Fp_f:∀ {w:World} {H:Hp},b.le H→Holds w H→∀ (f:GParam) (rr:Bool),d f=some rr→Con Tryz.prog kp_f ([(agg [(str f.fName),(str f.fValue)])]++cp_f) w H (fun H' v=>v=(boo rr))) {r:Bool} (h:zAT c d=some r) :
  Cb Tryz.prog 289 [j,(.func (.func kp_f) #[] cp_f.toArray)] i b r:=by
 refine CM 9 Tryz.func289 hw fun S=>?_
 refine Ws<|Wg<|A<|We<|Ws<|Wg<|M<|M<|B h fun o l h=>W.call S rfl (zBE S.holds c d k (fun hle=>Fp_f (Hp.le.trans S.post.le hle)) l) ?_
 rintro p q t u S rfl
 refine Ld<|A<|We ?_
 exact WP.ret (Rb h S)
theorem zGX {t:World} {u:Hp} (hw:Holds t u) (ar:Unit) (x:Str) {r:(Str×Bool)} (h:zB1 ar x=some r) :
  Con Tryz.prog 288 [(agg []),(str x)] t u (fun H' v=>v=(.tuple ⟨[(str r.1),(boo r.2)]⟩)):=by
 refine CM 42 Tryz.func288 hw fun S=>?_
 refine Ws<|Wg ?_
 refine W.box [] S rfl rfl ?_
 intro b1 w2 S
 refine A<|A<|We<|Ws<|Wg<|M<|B h fun c au h=>W.call S rfl (zFL S.holds x au) ?_
 rintro v4 w5 H6 bi S ⟨q,rfl,d⟩
 refine M ?_
 refine Ex ?_
 refine Ex ?_
 refine W.alloc [(str []),(str []),(.slice none 0 0)] S zDq ?_
 intro aa bj S
 refine W.store (i:=0) [(str c.1.fType),(str c.1.fSub),q] S rfl rfl rfl zBJ rfl (AllOne.all (l:=[(str c.1.fType),(str c.1.fSub),q]) (.cons rfl (.cons rfl (.cons (Sl.oneC d) .nil)))) (Nat.le_of_ble_eq_true rfl) rfl ?_
 intro bk S
 refine A<|We<|Ws<|Ws<|Wg<|Fb ?_
 refine Lo 0 S<|Nq d<|M<|We<|B h fun ah aw h=>WP.cut (fun f w=>∃ (ai:Hp),f 1=(str x)∧f 7=(boo ah)∧St t u w ai []) ?_ ?_
 ·refine Wb ?_
  refine WP.loopM (zA3 c) (fun s f w=>match s with | (z,aj)=>∃ (ab:Hp),f 1=(str x)∧f 6=(ptr aa 0)∧f 7=(boo z)∧f 16=q∧f 17=(int (c.1.fParams.length:Int))∧f 18=(int aj)∧Sl ab q c.1.fParams∧St t u w ab [.box aa 158 [(str c.1.fType),(str c.1.fSub),q]]) (c.2,0) ah aw ?_ ?_
  ·exact ⟨H6,rfl,rfl,rfl,rfl,rfl,rfl,d,(S.pk [0])⟩
  intro s f w hI bn p ax
  obtain ⟨z,aj⟩:=s
  obtain ⟨ab,ak,al,am,an,ao,ac,d,S⟩:=hI
  refine Ws<|Wg<|La' ac ao<|We<|Ws ?_
  rcases condE p with ⟨ae,p⟩ | ⟨ae,p⟩
  ·refine CT ae<|Wk<|Ws<|Wb<|Ws<|Wg<|M' ac<|B p fun k ay p=>W.idx (α:=GParam) d an ac el156 ay ?_
   rintro bo _ az rfl
   refine WL.w (R.loadHN (vs:=[(str k.fName),(str k.fValue)]) S rfl az zGm rfl rfl) ?_
   refine W.alloc [(str []),(str [])] S zJb ?_
   intro ap bp S
   refine A ?_
   refine W.store (i:=0) [(str k.fName),(str k.fValue)] S rfl rfl rfl zGm rfl rfl (Nat.le_of_ble_eq_true rfl) rfl ?_
   intro bq S
   refine We<|Wg<|M' am<|M ?_
   refine WL.grp 4 [25,26,27] 28 (boo (z&&(k.fName !=[113]))) ?_ ?_
   ·rcases boolE z with j | j
    ·refine Gy j<|Fb<|Gy j ?_
     refine Lo 0 S<|Gy j<|Nb<|Pt j ?_
     exact We ⟨(andT j),ag,rfl⟩
    refine Gn j<|Gn j<|Gn j<|Pf j ?_
    exact We ⟨(andF j),ag,rfl⟩
   intro us
   refine M ?_
   obtain ⟨ad,a0,a1,_,S⟩:=S.settle (i:=0) rfl
   replace S:St t u _ ad [.box aa 158 [(str c.1.fType),(str c.1.fSub),q]]:=S
   have a2:At ad ⟨ap,0,none⟩ [(str k.fName),(str k.fValue)]:=⟨_,_,rfl,a1,[],by simp⟩
   have d:=d.up a0
   refine B p fun a3 o p=>WL.grpw 8 [30,31,32,33,34,35,36] 37 (boo a3) (fun w=>∃ H':Hp,ad.le H'∧St t u w H' [.box aa 158 [(str c.1.fType),(str c.1.fSub),q]]) ?_ ?_
   ·rcases boolE (z&&(k.fName !=[113])) with b | b
    ·replace o:=condT o b
     refine Gy b<|Fb' al<|Gy b ?_
     refine Lo 0 S<|Gy b<|M<|Gy b<|B o fun a4 a5 o=>W.subHi (α:=GParam) d rfl rfl el156 a5 ?_
     intro br a6
     refine Gy b ?_
     refine WL.w (R.mkFunc (vs:=[(.pointer (some ⟨ap,0,none⟩))]) rfl)<|Gy b<|B o fun bs a7 o=>W.call S rfl (zCC S.holds a4 (fun x0=>zBj x0 k) a6 (fun hle hw x0 r h=>zFh hw x0 k (At.mono a2 hle (by simp)) h) a7) ?_
     rintro bt bu a8 aq S rfl
     have d:=d.up aq
     refine Gy b<|No<|Pt b ?_
     exact We ⟨(ob o),ag,⟨a8,aq,S⟩⟩
    replace o:=condF o b
    refine Gn b<|Gn b<|Gn b<|Gn b<|Gn b<|Gn b<|Gn b<|Pf b ?_
    exact We ⟨(ob o),ag,⟨ad,lr,S⟩⟩
   intro us bv ⟨a9,ba,S⟩
   have d:=d.up ba
   refine A<|We<|Wg<|Lg' ac rfl<|M<|We ?_
   obtain rfl:=oi p
   exact ⟨rfl,⟨a9,ak,al,rfl,an,ao,rfl,d,S⟩⟩
  refine CF ae<|Wx ?_
  obtain rfl:=oi p
  obtain rfl:=ax
  exact ⟨ab,ak,am,(S.pk [])⟩
 rintro f w ⟨ai,bb,bc,S⟩
 refine Ws<|Wg<|M' bb<|B h fun bw bd h=>W.call S rfl (zAe S.holds x bd) ?_
 rintro bx bz b0 b2 S rfl
 refine M' bc<|A<|A<|We ?_
 obtain rfl:=oi h
 refine WP.ret (Out.two rfl S rfl rfl ?_)
 exact rfl
theorem zGU {d:World} {f:Hp} (hw:Holds d f) (b:Str) (c:Str) {r:Int} (h:zDz b c=some r) :
  Ci Tryz.prog 157 [(str b),(str c)] d f r:=by
 refine CM 8 Tryz.func157 hw fun S=>?_
 refine Ws<|Wg<|A<|We<|Ws<|Wg<|M<|M<|B h fun j i h=>W.call S rfl (zEk S.holds b c i) ?_
 rintro k l o p S rfl
 refine A<|We ?_
 exact WP.ret (Ri h S)
end Go.Proofs
