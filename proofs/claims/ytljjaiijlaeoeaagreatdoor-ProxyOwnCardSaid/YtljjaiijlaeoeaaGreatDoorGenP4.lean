/- A part. -/
import Derived.Test.YtljjaiijlaeoeaaGreatDoorEng38
import Derived.Test.YtljjaiijlaeoeaaGreatDoorEng36
import Derived.Test.YtljjaiijlaeoeaaGreatDoorGenP3
namespace Go.Proofs
set_option maxHeartbeats 4000000
set_option maxRecDepth 10000
open Go.Eng Go.Eng.Pure
set_option linter.unusedVariables false
theorem zA7 {b:World} {c:Hp} (hw:Holds b c) (hG:Tryz.Gl b) (d:(List GField)) (f:Str) {j:Value} (l:Sl c j d) {r:(Str×Bool)} (h:zBF d f=some r) :
  Con Tryz.prog 86 [j,(str f)] b c (fun H' v=>v=(.tuple ⟨[(str r.1),(boo r.2)]⟩)):=by
 refine CM 16 Tryz.func86 hw fun S=>?_
 refine Ws<|Wg<|A<|A<|We<|Ws<|Wg<|M<|M<|B h fun t o h=>W.call S rfl (zB2 S.holds (hG.post S.post) d f l o) ?_
 rintro u x z aa S k
 refine A<|We<|Ws<|Ws<|Wg<|M<|Nq k<|Le<|We ?_
 rcases condE h with ⟨i,h⟩ | ⟨i,h⟩
 ·refine CT i<|Ws<|Wg<|A<|A<|We ?_
  obtain rfl:=oi h
  refine WP.ret (Out.two rfl S rfl rfl ?_)
  exact rfl
 refine CF i<|Wk<|Ws<|Wg<|M<|B h fun x8 p h=>W.idx (α:=Str) k rfl rfl el45 p ?_
 rintro a9 _ q rfl
 refine Lq S q<|A<|A<|We ?_
 obtain rfl:=oi h
 refine WP.ret (Out.two rfl S rfl rfl ?_)
 exact rfl
theorem zFf {f:World} {d:Hp} (hw:Holds f d) (hG:Tryz.Gl f) (i:Str) {r:Bool} (h:zEA i=some r) :
  Cb Tryz.prog 139 [(str i)] f d r:=by
 refine CM 11 Tryz.func139 hw fun S=>?_
 refine Ws<|Wg<|A<|We<|Ws<|Wg<|M<|Ns<|Ld<|M<|B h fun j c h=>WL.grpw 4 [7,8,9] 10 (boo j) (fun w=>∃ H':Hp,d.le H'∧St f d w H' []) ?_ ?_
 ·rcases boolE (decide (7≤(i.length:Int))) with b | b
  ·replace c:=condT c b
   refine Gy b<|M<|Gy b<|B c fun k l c=>Jd l<|Gy b<|B c fun t o c=>W.call S rfl (zAV S.holds (hG.post S.post) k [104,116,116,112,58,47,47] o) ?_
   rintro u v p q S rfl
   refine Pt b ?_
   exact We ⟨(ob c),ag,⟨p,q,S⟩⟩
  replace c:=condF c b
  refine Gn b<|Gn b<|Gn b<|Pf b ?_
  exact We ⟨(ob c),ag,⟨d,lr,S⟩⟩
 intro us x ⟨z,aa,S⟩
 refine A<|We ?_
 exact WP.ret (Rb h S)
theorem zDj {d:World} {j:Hp} (hw:Holds d j) (hG:Tryz.Gl d) (f:Str) (i:Str) {r:Bool} (h:zCI f i=some r) :
  Cb Tryz.prog 208 [(str f),(str i)] d j r:=by
 refine CM 18 Tryz.func208 hw fun S=>?_
 refine Ws<|Wg<|A<|We<|Ws<|Wg<|M<|Ns<|M<|Ns<|Ld<|M<|B h fun k c h=>WL.grp 7 [11,12,13,14,15,16] 17 (boo k) ?_ ?_
 ·rcases boolE (decide ((i.length:Int)≤(f.length:Int))) with b | b
  ·replace c:=condT c b
   refine Gy b<|M<|Gy b<|M<|Gy b<|Ns<|Gy b<|B c fun o l c=>Jd l<|Gy b<|M<|Gy b<|Na<|Pt b ?_
   exact We ⟨(ob c),ag,rfl⟩
  replace c:=condF c b
  refine Gn b<|Gn b<|Gn b<|Gn b<|Gn b<|Gn b<|Pf b ?_
  exact We ⟨(ob c),ag,rfl⟩
 intro us
 refine A<|We ?_
 exact WP.ret (Rb h S)
theorem zCQ {b:World} {f:Hp} (hw:Holds b f) (hG:Tryz.Gl b) (c:Str) (d:Str) {r:Bool} (h:zBx c d=some r) :
  Cb Tryz.prog 141 [(str c),(str d)] b f r:=by
 refine CM 8 Tryz.func141 hw fun S=>?_
 refine Ws<|Wg<|A<|We<|Ws<|Wg<|M<|M<|B h fun j i h=>W.call S rfl (zDj S.holds (hG.post S.post) c d i) ?_
 rintro k l o p S rfl
 refine A<|We ?_
 exact WP.ret (Rb h S)
theorem zCn {p:World} {t:Hp} (hw:Holds p t) (hG:Tryz.Gl p) (x:Str) {r:(Str×Bool)} (h:zB6 x=some r) :
  Con Tryz.prog 143 [(str x)] p t (fun H' v=>v=(.tuple ⟨[(str r.1),(boo r.2)]⟩)):=by
 refine CM 102 Tryz.func143 hw fun S=>?_
 refine Ws<|Wg<|A<|A<|We<|Ws<|Wg<|M<|Ns<|B h fun z1 ap h=>W.makeRow (α:=UInt8) (zv:=(byt 0)) S el206 rfl rfl rfl zer5 ap ?_
 intro v2 w3 H4 bf R6 S
 replace S:St p t _ H4 [.row v2 5 1 ([]:List UInt8).length]:=S
 refine A<|We<|Ws<|Ws<|Wg<|A<|We<|B h fun ab ar h=>WP.cut (fun f w=>∃ (ac:Hp) (z:Value),f 4=z∧Sl ac z ab∧St p t w ac [.row z 5 1 ab.length]) ?_ ?_
 ·refine Wb ?_
  refine WP.loopM (zCk x) (fun s f w=>match s with | (ad,ak)=>∃ (H7:Hp) (u:Value),f 0=(str x)∧f 4=u∧f 5=(int ak)∧Sl H7 u ad∧St p t w H7 [.row u 5 1 ad.length]) (([]:List UInt8),0) ab (lfW ar) ?_ ?_
  ·exact ⟨H4,v2,rfl,rfl,rfl,R6,S⟩
  intro s f w hI bg b au
  obtain ⟨ad,ak⟩:=s
  obtain ⟨H7,u,l,al,o,q,S⟩:=hI
  refine Ws<|Ws<|Wg<|M' o<|M' l<|Ns<|La<|We ?_
  rcases condE b with ⟨ae,b⟩ | ⟨ae,b⟩
  ·refine CT ae<|Wk<|Ws<|Wb<|Ws<|Ws<|Wg<|M' l<|M' o<|B b fun am av b=>Ja av<|Ma am 33<|M<|B b fun an j b=>WL.grp 5 [23,24,25,26] 27 (boo an) ?_ ?_
   ·rcases boolE (decide (am<33)) with c | c
    ·replace j:=condT j c
     refine Gn c<|Gn c<|Gn c<|Gn c<|Pt c ?_
     exact We ⟨(ob j),ag,rfl⟩
    replace j:=condF j c
    refine Gy c<|M' l<|Gy c<|M' o<|Gy c<|B j fun aw ax j=>Ja ax<|Gy c<|Mc aw 126<|Pf c ?_
    exact We ⟨(ob j),ag,rfl⟩
   intro us
   refine M<|B b fun ay k b=>WL.grp 5 [29,30,31,32] 33 (boo ay) ?_ ?_
   ·rcases boolE an with d | d
    ·replace k:=condT k d
     refine Gn d<|Gn d<|Gn d<|Gn d<|Pt d ?_
     exact We ⟨(ob k),ag,rfl⟩
    replace k:=condF k d
    refine Gy d<|M' l<|Gy d<|M' o<|Gy d<|B k fun az a0 k=>Ja a0<|Gy d<|Me az 35<|Pf d ?_
    exact We ⟨(ob k),ag,rfl⟩
   intro us
   refine We ?_
   rcases condE b with ⟨af,b⟩ | ⟨af,b⟩
   ·refine CT af ?_
    cases b
   refine CF af<|Wk<|Ws<|Ws<|Wg<|M' l<|M' o<|B b fun a1 a2 b=>Ja a2<|Mf a1 37<|We ?_
   rcases condE b with ⟨ah,b⟩ | ⟨ah,b⟩
   ·refine CT ah<|Ws<|Wg<|M' al<|M' l<|M' o<|B b fun ao a3 b=>Ja a3<|W.bslice (α:=UInt8) [(byt ao)] ([ao]:List UInt8) S el206 rfl rfl rfl (by decide) (Go.Eng.encS ⟨rfl,rfl⟩ enc0) ?_
    intro bh bi bj a4 a5 S
    have q:=q.up a4
    refine B b fun bk a6 b=>W.app (α:=UInt8) (i:=1) S el206 rfl rfl rfl q a5 a6 ?_
    intro a7 bn a8 a9 ba S
    have q:=q.up a9
    refine A<|We<|Wx<|Wg<|M' o<|Lg<|A<|We ?_
    obtain rfl:=oi b
    exact ⟨rfl,⟨a8,a7,l,rfl,rfl,ba,(S.pk [1])⟩⟩
   refine CF ah ?_
   cases b
  refine CF ae<|Wx ?_
  obtain rfl:=oi b
  obtain rfl:=au
  exact ⟨H7,u,al,q,S⟩
 rintro f w ⟨ac,z,bb,bc,S⟩
 refine Ws<|Wg<|M' bb ?_
 refine WL.w (R.strL S bc rfl Tryz.underlying206 Tryz.underlying9 Tryz.underlying5)<|A<|A<|We ?_
 obtain rfl:=oi h
 refine WP.ret (Out.two rfl S rfl rfl ?_)
 exact rfl
theorem zEC {k:World} {l:Hp} (hw:Holds k l) (hG:Tryz.Gl k) (b:UInt8) {r:Bool} (h:zCp b=some r) :
  Cb Tryz.prog 211 [(byt b)] k l r:=by
 refine CM 25 Tryz.func211 hw fun S=>?_
 refine Ws<|Wg<|A<|We<|Ws<|Wg<|M<|Md b 48<|M ?_
 refine WL.grp 3 [6,7] 8 (boo ((decide (48≤b))&&(decide (b≤57)))) ?_ ?_
 ·rcases boolE (decide (48≤b)) with f | f
  ·refine Gy f<|M<|Gy f<|Mb b 57<|Pt f ?_
   exact We ⟨(andT f),ag,rfl⟩
  refine Gn f<|Gn f<|Pf f ?_
  exact We ⟨(andF f),ag,rfl⟩
 intro us
 refine M ?_
 refine WL.grp 7 [10,11,12,13,14,15] 16 (boo (((decide (48≤b))&&(decide (b≤57)))||((decide (65≤b))&&(decide (b≤90))))) ?_ ?_
 ·rcases boolE ((decide (48≤b))&&(decide (b≤57))) with c | c
  ·refine Gn c<|Gn c<|Gn c<|WL.gund rfl rfl<|WL.gund rfl rfl<|Gn c<|Pt c ?_
   exact We ⟨(orT c),ag,rfl⟩
  refine Gy c<|M<|Gy c<|Md b 65<|Gy c<|M ?_
  refine WL.grp 3 [13,14] 15 (boo ((decide (65≤b))&&(decide (b≤90)))) ?_ ?_
  ·rcases boolE (decide (65≤b)) with i | i
   ·refine Gy i<|M<|Gy i<|Mb b 90<|Gy c<|Pt i ?_
    exact We ⟨(andT i),ag,rfl⟩
   refine Gn i<|Gn i<|Gy c<|Pf i ?_
   exact We ⟨(andF i),ag,rfl⟩
  intro us
  refine Pf c ?_
  exact We ⟨(orF c),ag,rfl⟩
 intro us
 refine M ?_
 refine WL.grp 7 [18,19,20,21,22,23] 24 (boo ((((decide (48≤b))&&(decide (b≤57)))||((decide (65≤b))&&(decide (b≤90))))||((decide (97≤b))&&(decide (b≤122))))) ?_ ?_
 ·rcases boolE (((decide (48≤b))&&(decide (b≤57)))||((decide (65≤b))&&(decide (b≤90)))) with d | d
  ·refine Gn d<|Gn d<|Gn d<|WL.gund rfl rfl<|WL.gund rfl rfl<|Gn d<|Pt d ?_
   exact We ⟨(orT d),ag,rfl⟩
  refine Gy d<|M<|Gy d<|Md b 97<|Gy d<|M ?_
  refine WL.grp 3 [21,22] 23 (boo ((decide (97≤b))&&(decide (b≤122)))) ?_ ?_
  ·rcases boolE (decide (97≤b)) with j | j
   ·refine Gy j<|M<|Gy j<|Mb b 122<|Gy d<|Pt j ?_
    exact We ⟨(andT j),ag,rfl⟩
   refine Gn j<|Gn j<|Gy d<|Pf j ?_
   exact We ⟨(andF j),ag,rfl⟩
  intro us
  refine Pf d ?_
  exact We ⟨(orF d),ag,rfl⟩
 intro us
 refine A<|We ?_
 exact WP.ret (Rb h S)
theorem zFt {i:World} {j:Hp} (hw:Holds i j) (hG:Tryz.Gl i) (b:UInt8) {r:Bool} (h:zEJ b=some r) :
  Cb Tryz.prog 213 [(byt b)] i j r:=by
 refine CM 13 Tryz.func213 hw fun S=>?_
 refine Ws<|Wg<|A<|We<|Ws<|Wg<|M<|B h fun f k h=>W.call S rfl (zEC S.holds (hG.post S.post) b k) ?_
 rintro l o p q S rfl
 refine M ?_
 refine WL.grp 3 [6,7] 8 (boo (f||(b==45))) ?_ ?_
 ·rcases boolE f with c | c
  ·refine Gn c<|Gn c<|Pt c ?_
   exact We ⟨(orT c),ag,rfl⟩
  refine Gy c<|M<|Gy c<|Me b 45<|Pf c ?_
  exact We ⟨(orF c),ag,rfl⟩
 intro us
 refine M ?_
 refine WL.grp 3 [10,11] 12 (boo ((f||(b==45))||(b==46))) ?_ ?_
 ·rcases boolE (f||(b==45)) with d | d
  ·refine Gn d<|Gn d<|Pt d ?_
   exact We ⟨(orT d),ag,rfl⟩
  refine Gy d<|M<|Gy d<|Me b 46<|Pf d ?_
  exact We ⟨(orF d),ag,rfl⟩
 intro us
 refine A<|We ?_
 exact WP.ret (Rb h S)
theorem zE6 {d:World} {i:Hp} (hw:Holds d i) (hG:Tryz.Gl d) (j:Str) {r:(Str×Int×Bool)} (h:zDy j=some r) :
  Con Tryz.prog 144 [(str j)] d i (fun H' v=>v=(.tuple ⟨[(str r.1),(int r.2.1),(boo r.2.2)]⟩)):=by
 refine CM 57 Tryz.func144 hw fun S=>?_
 refine Ws<|Wg<|A<|A<|A<|We<|Ws<|Wg<|M<|B h fun c ad h=>W.call S rfl (zAX S.holds (hG.post S.post) j [58] ad) ?_
 rintro v2 w3 H4 ar S rfl
 refine M ?_
 refine Ex ?_
 refine Ex ?_
 refine Ex<|A<|A<|A<|We<|Ws<|Ws<|Wg<|M ?_
 refine Ns<|M<|We<|B h fun af ah h=>WP.cut (fun f w=>∃ (x:Hp),f 5=(str c.1)∧f 6=(str c.2.1)∧St d i w x []) ?_ ?_
 ·refine Wb ?_
  refine WP.loopM (zCm c) (fun s f w=>match s with | z=>∃ (k:Hp),f 5=(str c.1)∧f 6=(str c.2.1)∧f 19=(int (c.1.length:Int))∧f 20=(int z)∧St d i w k []) 0 af (lfW ah) ?_ ?_
  ·exact ⟨H4,rfl,rfl,rfl,rfl,S⟩
  intro z f w hI au b ai
  obtain ⟨k,l,h8,h9,o,S⟩:=hI
  refine Ws<|Wg<|La' o h9<|We<|Ws ?_
  rcases condE b with ⟨p,b⟩ | ⟨p,b⟩
  ·refine CT p<|Wk<|Ws<|Wb<|Ws<|Wg<|M' o<|A<|We<|Ws<|Wg<|M' l ?_
   refine M<|B b fun aj ak b=>Ja ak<|B b fun av al b=>W.call S rfl (zFt S.holds (hG.post S.post) aj al) ?_
   rintro aw ax am ay S rfl
   refine No<|We ?_
   rcases condE b with ⟨q,b⟩ | ⟨q,b⟩
   ·refine CT q ?_
    cases b
   refine CF q<|Wk<|Wg<|Lg' o rfl<|M<|We ?_
   obtain rfl:=oi b
   exact ⟨rfl,⟨am,l,h8,h9,rfl,S⟩⟩
  refine CF p<|Wx ?_
  obtain rfl:=oi b
  obtain rfl:=ai
  exact ⟨k,l,h8,S⟩
 rintro f w ⟨x,ac,an,S⟩
 refine Ws<|Ws<|Wg<|M' ac<|Na<|We ?_
 rcases condE h with ⟨t,h⟩ | ⟨t,h⟩
 ·refine CT t ?_
  cases h
 refine CF t<|Wk<|Ws<|Wg<|A<|We<|Ws<|Ws<|Wg<|M' an<|Nb<|We ?_
 rcases condE h with ⟨u,h⟩ | ⟨u,h⟩
 ·refine CT u ?_
  cases h
 refine CF u<|Wk<|Ws<|Wg<|M' ac<|B h fun az ao h=>W.call S rfl (zAk S.holds (hG.post S.post) c.1 ao) ?_
 rintro a0 a1 a2 a3 S rfl
 refine M<|A<|A<|A<|We ?_
 obtain rfl:=oi h
 refine WP.ret (Out.three rfl S rfl rfl rfl ?_)
 exact rfl
theorem zFv {j:World} {o:Hp} (hw:Holds j o) (hG:Tryz.Gl j) (u:Str) {r:Str} (h:zD9 u=some r) :
  Cs Tryz.prog 145 [(str u)] j o r:=by
 refine CM 46 Tryz.func145 hw fun S=>?_
 refine Ws<|Wg<|A<|We<|WP.scope<|Ws<|Ws<|Wg<|M<|B h fun r1 ai h=>W.call S rfl (zCQ S.holds (hG.post S.post) u [47] ai) ?_
 rintro v2 w3 H4 a8 S rfl
 refine No<|We ?_
 rcases condE h with ⟨v,h⟩ | ⟨v,h⟩
 ·refine CT v ?_
  cases h
 refine CF v<|Wk<|Ws<|Wg<|A<|We<|Ws<|Wg<|M<|B h fun s7 al h=>Jc al<|A<|A<|We<|Ws<|WP.label<|Ws ?_
 have S:=S.addNil 9 1
 refine B h fun p am h=>WP.cut (fun f w=>∃ (x:Hp) (q:Value),f 3=q∧Sl x q p∧St j o w x [.row q 9 1 p.length]) ?_ ?_
 ·refine Wb ?_
  refine WP.loopM (zDD) (fun s f w=>match s with | (z,aa,af)=>∃ (t:Hp) (k:Value),f 3=k∧f 4=(str aa)∧f 5=(boo af)∧Sl t k z∧St j o w t [.row k 9 1 z.length]) (([]:List Str),s7,true) p (lfW am) ?_ ?_
  ·exact ⟨H4,.slice none 0 0,rfl,rfl,rfl,Sl.nil,S⟩
  intro s f w hI a9 b an
  obtain ⟨z,aa,af⟩:=s
  obtain ⟨t,k,ah,ao,ap,c,S⟩:=hI
  refine Ws<|Ws<|Wg<|M' ap<|We ?_
  rcases condE b with ⟨ab,b⟩ | ⟨ab,b⟩
  ·refine CT ab<|Wk<|Wb<|Ws<|Wg<|A<|We<|Ws<|Wg<|M' ao<|B b fun l aq b=>W.call S rfl (zAX S.holds (hG.post S.post) aa [47] aq) ?_
   rintro ba bb bc ar S rfl
   have c:=c.up ar
   refine M ?_
   refine Ex ?_
   refine Ex ?_
   refine Ex<|A<|A<|A<|We<|Ws<|Wb<|Ws<|Wg ?_
   refine M<|Na<|M ?_
   refine WL.grp 2 [24] 25 (boo ((l.1==[46])&&l.2.2)) ?_ ?_
   ·rcases boolE (l.1==[46]) with d | d
    ·refine Gy d<|M<|Pt d ?_
     exact We ⟨(andT d),ag,rfl⟩
    refine Gn d<|Pf d ?_
    exact We ⟨(andF d),ag,rfl⟩
   intro us
   refine A<|We ?_
   rcases condE b with ⟨ac,b⟩ | ⟨ac,b⟩
   ·refine CT ac ?_
    cases b
   refine CF ac<|Ws<|Wg<|M<|Na<|A<|We ?_
   rcases condE b with ⟨ad,b⟩ | ⟨ad,b⟩
   ·refine CT ad ?_
    cases b
   refine CF ad<|Ws<|Wg<|M<|Na<|A<|We ?_
   rcases condE b with ⟨ae,b⟩ | ⟨ae,b⟩
   ·refine CT ae ?_
    cases b
   refine CF ae<|Wk<|Wg<|M' ah<|M<|W.bslice (α:=Str) [(str l.1)] ([l.1]:List Str) S el45 rfl rfl rfl (by decide) (Go.Eng.encS ⟨rfl,rfl⟩ enc0) ?_
   intro bd be bf au av S
   have c:=c.up au
   refine B b fun bg aw b=>W.app (α:=Str) (i:=1) S el45 rfl rfl rfl c av aw ?_
   intro ax bh ay az a0 S
   have c:=c.up az
   refine A<|We ?_
   obtain rfl:=oi b
   exact ⟨rfl,⟨ay,ax,rfl,rfl,rfl,a0,(S.pk [1])⟩⟩
  refine CF ab<|Wx ?_
  obtain rfl:=oi b
  obtain rfl:=an
  exact ⟨t,k,ah,c,S⟩
 rintro f w ⟨x,q,a1,a2,S⟩
 refine Ws<|Wg<|M' a1<|B h fun bi a3 h=>W.call S rfl (zG2 S.holds p [47] a2 a3) ?_
 rintro bj bk bn bo S rfl
 refine B h fun bp a4 h=>Je a4<|A<|We ?_
 exact WP.ret (Rs h S)
theorem zGW {l:World} {H0:Hp} (hw:Holds l H0) (hG:Tryz.Gl l) (f:Str) (o:Str) {r:(GURI×Int)} (h:zFx f o=some r) :
  Con Tryz.prog 87 [(str f),(str o)] l H0 (fun H' v=>v=(.tuple ⟨[(agg [(str r.1.fHost),(int r.1.fPort),(str r.1.fPath),(str r.1.fQuery),(boo r.1.fHasQuery)]),(int r.2)]⟩)):=by
 refine CM 79 Tryz.func87 hw fun S=>?_
 refine Ws<|Wg ?_
 refine W.alloc [(str []),(int 0),(str []),(str []),(boo false)] S zer96 ?_
 intro b1 w2 S
 refine A<|We<|Ws<|Wg<|M<|A<|We<|Ws<|Wb<|Ws<|Wg<|M<|B h fun r3 ab h=>W.call S rfl (zFf S.holds (hG.post S.post) f ab) ?_
 rintro v4 w5 H6 ap S rfl
 refine A<|We ?_
 rcases condE h with ⟨p,h⟩ | ⟨p,h⟩
 ·refine CT p ?_
  cases h
 refine CF p<|Ws<|Wg<|M<|B h fun r9 ac h=>W.call S rfl (zCQ S.holds (hG.post S.post) f [47] ac) ?_
 rintro ar au av aw S rfl
 refine No<|A<|We ?_
 rcases condE h with ⟨q,h⟩ | ⟨q,h⟩
 ·refine CT q ?_
  cases h
 refine CF q<|Wk<|Ws<|Wg<|M<|B h fun d ad h=>W.call S rfl (zAX S.holds (hG.post S.post) f [63] ad) ?_
 rintro ax ay az a0 S rfl
 refine M ?_
 refine Ex ?_
 refine Ex ?_
 refine Ex<|A<|A<|A<|We<|Ws<|Wg<|M<|B h fun t ae h=>W.call S rfl (zCn S.holds (hG.post S.post) d.1 ae) ?_
 rintro a1 a2 a3 a4 S rfl
 refine M ?_
 refine Ex ?_
 refine Ex<|A<|A<|We<|Ws<|Wg<|M<|B h fun j af h=>W.call S rfl (zCn S.holds (hG.post S.post) d.2.1 af) ?_
 rintro a5 a6 a7 a8 S rfl
 refine M ?_
 refine Ex ?_
 refine Ex<|A<|A<|We<|Ws<|Ws<|Wg<|M<|No<|M ?_
 refine WL.grp 3 [57,58] 59 (boo ((!t.2)||(!j.2))) ?_ ?_
 ·rcases boolE (!t.2) with b | b
  ·refine Gn b<|Gn b<|Pt b ?_
   exact We ⟨(orT b),ag,rfl⟩
  refine Gy b<|M<|Gy b<|No<|Pf b ?_
  exact We ⟨(orF b),ag,rfl⟩
 intro us
 refine We ?_
 rcases condE h with ⟨u,h⟩ | ⟨u,h⟩
 ·refine CT u ?_
  cases h
 refine CF u<|Wk<|Ws<|Ws<|Wg<|M<|Na<|We ?_
 rcases condE h with ⟨x,h⟩ | ⟨x,h⟩
 ·refine CT x ?_
  cases h
 refine CF x<|Wk<|Ws<|Wg<|M<|B h fun c ah h=>W.call S rfl (zE6 S.holds (hG.post S.post) o ah) ?_
 rintro a9 ba bb bc S rfl
 refine M ?_
 refine Ex ?_
 refine Ex ?_
 refine Ex<|A<|A<|A<|We<|Ws<|Ws<|Wg<|M ?_
 refine No<|We ?_
 rcases condE h with ⟨z,h⟩ | ⟨z,h⟩
 ·refine CT z ?_
  cases h
 refine CF z<|Wk<|Ws<|Wg<|M<|M<|M<|B h fun k ai h=>W.call S rfl (zFv S.holds (hG.post S.post) t.1 ai) ?_
 rintro bd be bf bg S rfl
 refine M<|M ?_
 refine WL.w (R.build [(0,(str c.1)),(1,(int c.2.1)),(2,(str k)),(3,(str j.1)),(4,(boo d.2.2))] [(str c.1),(int c.2.1),(str k),(str j.1),(boo d.2.2)] bp96 zer96 kr kr) ?_
 refine W.store (i:=0) [(str c.1),(int c.2.1),(str k),(str j.1),(boo d.2.2)] S rfl rfl rfl lay96 rfl rfl (Nat.le_of_ble_eq_true rfl) rfl ?_
 intro bh S
 refine A<|We ?_
 obtain rfl:=oi h
 refine WP.ret (Out.two rfl S (Res.cellB (i:=0) (cs:=[(str c.1),(int c.2.1),(str k),(str j.1),(boo d.2.2)]) S rfl rfl lay96 rfl rfl) rfl ?_)
 exact rfl
theorem zFZ {q:World} {x:Hp} (hw:Holds q x) (hG:Tryz.Gl q) (p:Str) {r:(GRequest×GURI×Unit)} (h:zE1 p=some r) :
  Con Tryz.prog 48 [(str p)] q x (fun H' v=>∃ z:Value,v=(.tuple ⟨[(agg [(str r.1.fMethod),(str r.1.fTarget),(int r.1.fMinor),z,(str r.1.fBody)]),(agg [(str r.2.1.fHost),(int r.2.1.fPort),(str r.2.1.fPath),(str r.2.1.fQuery),(boo r.2.1.fHasQuery)]),.nilIface]⟩)∧Sl H' z r.1.fFields):=by
 refine CM 61 Tryz.func48 hw fun S=>?_
 refine Ws<|Wg ?_
 refine W.alloc [(str []),(str []),(int 0),(.slice none 0 0),(str [])] S zer94 ?_
 intro b1 w2 S
 refine W.alloc [(str []),(int 0),(str []),(str []),(boo false)] S zer96 ?_
 intro b3 w4 S
 refine A<|We<|Ws<|Wg<|M<|B h fun b ac h=>W.call S rfl (zD3 S.holds (hG.post S.post) p ac) ?_
 rintro v6 w7 H8 aq S ⟨d,rfl,k⟩
 refine M ?_
 refine Ex ?_
 refine Ex ?_
 refine Ex ?_
 refine W.alloc [(str []),(str []),(int 0),(.slice none 0 0),(str [])] S zer94 ?_
 intro ar au S
 refine W.store (i:=0) [(str b.1.fMethod),(str b.1.fTarget),(int b.1.fMinor),d,(str b.1.fBody)] S rfl rfl rfl lay94 rfl (AllOne.all (l:=[(str b.1.fMethod),(str b.1.fTarget),(int b.1.fMinor),d,(str b.1.fBody)]) (.cons rfl (.cons rfl (.cons rfl (.cons (Sl.oneC k) (.cons rfl .nil)))))) (Nat.le_of_ble_eq_true rfl) rfl ?_
 intro av S
 refine A<|A<|We<|Ws<|Ws<|Wg<|M<|Lf<|M ?_
 refine WL.grp 5 [20,21,22,23] 24 (boo ((b.2.2 !=0)||(b.2.1 !=(p.length:Int)))) ?_ ?_
 ·rcases boolE (b.2.2 !=0) with f | f
  ·refine Gn f<|Gn f<|Gn f<|Gn f<|Pt f ?_
   exact We ⟨(orT f),ag,rfl⟩
  refine Gy f<|M<|Gy f<|M<|Gy f<|Ns<|Gy f<|Lf<|Pf f ?_
  exact We ⟨(orF f),ag,rfl⟩
 intro us
 refine We ?_
 rcases condE h with ⟨t,h⟩ | ⟨t,h⟩
 ·refine CT t ?_
  cases h
 refine CF t<|Wk<|Ws<|Wg<|Fb ?_
 refine Lo 0 S<|B h fun ad ae h=>W.call S rfl (zA7 S.holds (hG.post S.post) b.1.fFields [72,111,115,116] k ae) ?_
 rintro aw ax ay af S rfl
 have k:=k.up af
 refine M ?_
 refine Ex ?_
 refine Ex<|A<|A<|We<|Ws<|Wg<|Fb ?_
 refine Lo 0 S<|M<|B h fun c ah h=>W.call S rfl (zGW S.holds (hG.post S.post) b.1.fTarget ad.1 ah) ?_
 rintro az a0 a1 ai S rfl
 have k:=k.up ai
 refine M ?_
 refine Ex ?_
 refine Ex ?_
 refine W.alloc [(str []),(int 0),(str []),(str []),(boo false)] S zer96 ?_
 intro a2 a3 S
 refine W.store (i:=0) [(str c.1.fHost),(int c.1.fPort),(str c.1.fPath),(str c.1.fQuery),(boo c.1.fHasQuery)] S rfl rfl rfl lay96 rfl rfl (Nat.le_of_ble_eq_true rfl) rfl ?_
 intro a4 S
 refine A<|We<|Ws<|Ws<|Wg<|M<|Lf<|M ?_
 refine WL.grp 4 [48,49,50] 51 (boo ((c.2 !=0)||(b.1.fMethod==[67,79,78,78,69,67,84]))) ?_ ?_
 ·rcases boolE (c.2 !=0) with o | o
  ·refine Gn o<|Gn o<|Gn o<|Pt o ?_
   exact We ⟨(orT o),ag,rfl⟩
  refine Gy o<|Fb<|Gy o ?_
  refine Lo 1 S<|Gy o<|Na<|Pf o ?_
  exact We ⟨(orF o),ag,rfl⟩
 intro us
 refine We ?_
 rcases condE h with ⟨u,h⟩ | ⟨u,h⟩
 ·refine CT u ?_
  cases h
 refine CF u<|Wk<|Ws<|WP.draw kr 5 rfl (bm 5 0) rfl ?_
 have S:=S.drew
 refine WA.two (i:=0) (j:=1) (bm 5 1) (bm 5 2) rfl rfl kr rfl rfl ?_ ?_
 ·refine WL.w (R.loadBN (i:=1) (vs:=[(str b.1.fMethod),(str b.1.fTarget),(int b.1.fMinor),d,(str b.1.fBody)]) S rfl rfl lay94 rfl rfl)<|We ?_
  refine WA.two (i:=1) (j:=2) (bm 5 3) (bm 5 5) rfl rfl kr rfl rfl ?_ ?_
  ·refine WL.w (R.loadBN (i:=0) (vs:=[(str c.1.fHost),(int c.1.fPort),(str c.1.fPath),(str c.1.fQuery),(boo c.1.fHasQuery)]) S rfl rfl lay96 rfl rfl)<|We<|WA.one (i:=2) (bm 5 7) rfl kr rfl ?_
   refine W.store (i:=3) [(str b.1.fMethod),(str b.1.fTarget),(int b.1.fMinor),d,(str b.1.fBody)] S rfl rfl rfl lay94 rfl (AllOne.all (l:=[(str b.1.fMethod),(str b.1.fTarget),(int b.1.fMinor),d,(str b.1.fBody)]) (.cons rfl (.cons rfl (.cons rfl (.cons (Sl.oneC k) (.cons rfl .nil)))))) (Nat.le_of_ble_eq_true rfl) rfl ?_
   intro aa S
   refine We<|WA.one (i:=3) (bm 5 15) rfl kr rfl ?_
   refine W.store (i:=2) [(str c.1.fHost),(int c.1.fPort),(str c.1.fPath),(str c.1.fQuery),(boo c.1.fHasQuery)] S rfl rfl rfl lay96 rfl rfl (Nat.le_of_ble_eq_true rfl) rfl ?_
   intro ab S
   refine We ?_
   refine At_ 4 5 31 rfl (fun _=>(R.as (v:=.nilIface) rfl))<|WA.done kr ?_
   obtain rfl:=oi h
   refine WP.ret (Out.three rfl S (Res.cellB (i:=3) (cs:=[(str b.1.fMethod),(str b.1.fTarget),(int b.1.fMinor),d,(str b.1.fBody)]) S rfl rfl lay94 rfl rfl) (Res.cellB (i:=2) (cs:=[(str c.1.fHost),(int c.1.fPort),(str c.1.fPath),(str c.1.fQuery),(boo c.1.fHasQuery)]) S rfl rfl lay96 rfl rfl) rfl ?_)
   exact ⟨_,rfl,k⟩
  refine W.store (i:=3) [(str b.1.fMethod),(str b.1.fTarget),(int b.1.fMinor),d,(str b.1.fBody)] S rfl rfl rfl lay94 rfl (AllOne.all (l:=[(str b.1.fMethod),(str b.1.fTarget),(int b.1.fMinor),d,(str b.1.fBody)]) (.cons rfl (.cons rfl (.cons rfl (.cons (Sl.oneC k) (.cons rfl .nil)))))) (Nat.le_of_ble_eq_true rfl) rfl ?_
  intro aa S
  refine We<|WA.one (i:=1) (bm 5 7) rfl kr rfl ?_
  refine WL.w (R.loadBN (i:=0) (vs:=[(str c.1.fHost),(int c.1.fPort),(str c.1.fPath),(str c.1.fQuery),(boo c.1.fHasQuery)]) S rfl rfl lay96 rfl rfl)<|We<|WA.one (i:=3) (bm 5 15) rfl kr rfl ?_
  refine W.store (i:=2) [(str c.1.fHost),(int c.1.fPort),(str c.1.fPath),(str c.1.fQuery),(boo c.1.fHasQuery)] S rfl rfl rfl lay96 rfl rfl (Nat.le_of_ble_eq_true rfl) rfl ?_
  intro ab S
  refine We ?_
  refine At_ 4 5 31 rfl (fun _=>(R.as (v:=.nilIface) rfl))<|WA.done kr ?_
  obtain rfl:=oi h
  refine WP.ret (Out.three rfl S (Res.cellB (i:=3) (cs:=[(str b.1.fMethod),(str b.1.fTarget),(int b.1.fMinor),d,(str b.1.fBody)]) S rfl rfl lay94 rfl rfl) (Res.cellB (i:=2) (cs:=[(str c.1.fHost),(int c.1.fPort),(str c.1.fPath),(str c.1.fQuery),(boo c.1.fHasQuery)]) S rfl rfl lay96 rfl rfl) rfl ?_)
  exact ⟨_,rfl,k⟩
 refine WL.w (R.loadBN (i:=0) (vs:=[(str c.1.fHost),(int c.1.fPort),(str c.1.fPath),(str c.1.fQuery),(boo c.1.fHasQuery)]) S rfl rfl lay96 rfl rfl)<|We<|WA.one (i:=0) (bm 5 3) rfl kr rfl ?_
 refine WL.w (R.loadBN (i:=1) (vs:=[(str b.1.fMethod),(str b.1.fTarget),(int b.1.fMinor),d,(str b.1.fBody)]) S rfl rfl lay94 rfl rfl)<|We<|WA.one (i:=2) (bm 5 7) rfl kr rfl ?_
 refine W.store (i:=3) [(str b.1.fMethod),(str b.1.fTarget),(int b.1.fMinor),d,(str b.1.fBody)] S rfl rfl rfl lay94 rfl (AllOne.all (l:=[(str b.1.fMethod),(str b.1.fTarget),(int b.1.fMinor),d,(str b.1.fBody)]) (.cons rfl (.cons rfl (.cons rfl (.cons (Sl.oneC k) (.cons rfl .nil)))))) (Nat.le_of_ble_eq_true rfl) rfl ?_
 intro aa S
 refine We<|WA.one (i:=3) (bm 5 15) rfl kr rfl ?_
 refine W.store (i:=2) [(str c.1.fHost),(int c.1.fPort),(str c.1.fPath),(str c.1.fQuery),(boo c.1.fHasQuery)] S rfl rfl rfl lay96 rfl rfl (Nat.le_of_ble_eq_true rfl) rfl ?_
 intro ab S
 refine We ?_
 refine At_ 4 5 31 rfl (fun _=>(R.as (v:=.nilIface) rfl))<|WA.done kr ?_
 obtain rfl:=oi h
 refine WP.ret (Out.three rfl S (Res.cellB (i:=3) (cs:=[(str b.1.fMethod),(str b.1.fTarget),(int b.1.fMinor),d,(str b.1.fBody)]) S rfl rfl lay94 rfl rfl) (Res.cellB (i:=2) (cs:=[(str c.1.fHost),(int c.1.fPort),(str c.1.fPath),(str c.1.fQuery),(boo c.1.fHasQuery)]) S rfl rfl lay96 rfl rfl) rfl ?_)
 exact ⟨_,rfl,k⟩
theorem zFR {c:World} {f:Hp} (hw:Holds c f) (hG:Tryz.Gl c) (b:GURI) {r:Str} (h:zDq b=some r) :
  Cs Tryz.prog 93 [(agg [(str b.fHost),(int b.fPort),(str b.fPath),(str b.fQuery),(boo b.fHasQuery)])] c f r:=by
 refine CM 15 Tryz.func93 hw fun S=>?_
 refine Ws<|Wg ?_
 refine W.box [(str b.fHost),(int b.fPort),(str b.fPath),(str b.fQuery),(boo b.fHasQuery)] S rfl rfl ?_
 intro i j S
 refine A<|We<|Ws<|Ws<|Wg<|Fb ?_
 refine Lo 0 S<|Le<|We ?_
 rcases condE h with ⟨d,h⟩ | ⟨d,h⟩
 ·refine CT d<|Ws<|Wg<|Fb ?_
  refine Lo 0 S<|A<|We ?_
  exact WP.ret (Rs h S)
 refine CF d ?_
 cases h
theorem zFK {c:World} {f:Hp} (hw:Holds c f) (hG:Tryz.Gl c) (b:GURI) {r:Str} (h:zFH b=some r) :
  Cs Tryz.prog 51 [(agg [(str b.fHost),(int b.fPort),(str b.fPath),(str b.fQuery),(boo b.fHasQuery)])] c f r:=by
 refine CM 18 Tryz.func51 hw fun S=>?_
 refine Ws<|Wg ?_
 refine W.box [(str b.fHost),(int b.fPort),(str b.fPath),(str b.fQuery),(boo b.fHasQuery)] S rfl rfl ?_
 intro p q S
 refine A<|We<|Ws<|WP.quiet S kr kr ?_
 refine WQ.val (fun w hw=>by obtain ⟨_,hq,S⟩:=hw; exact (R.loadBN (i:=0) (vs:=[(str b.fHost),(int b.fPort),(str b.fPath),(str b.fQuery),(boo b.fHasQuery)]) S rfl rfl lay96 rfl rfl))<|B h fun j k h=>WQ.call (v:=str j) rfl (fun w H' hq S=>zFR S.holds (hG.post S.post) b k)<|B h fun t l h=>QJe l<|QFb ?_
 refine QB 0 (str b.fPath)<|B h fun u o h=>QJe o<|QA<|WQ.nil ?_
 intro x z aa S
 refine Ws<|Ws<|Wg<|Fb ?_
 refine Lo 0 S<|We ?_
 rcases condE h with ⟨d,h⟩ | ⟨d,h⟩
 ·refine CT d ?_
  cases h
 refine CF d<|Wk<|Ws<|Wg<|M<|A<|We ?_
 exact WP.ret (Rs h S)
theorem zFX {c:World} {b:Hp} (hw:Holds c b) (hG:Tryz.Gl c) (i:(List GAxis)) {l:Value} (p:Sl b l i) {r:(List GAxis)} (h:zGe i=some r) :
  Con Tryz.prog 135 [l] c b (fun H' v=>Sl H' v r):=by
 refine CM 23 Tryz.func135 hw fun S=>?_
 refine Ws<|Wg<|A<|We<|Ws<|Wg<|A<|We<|Ws<|Ws<|Wg<|M ?_
 refine Nq p<|M<|We<|B h fun q t h=>WP.cut (fun f w=>∃ (o:Hp),f 3=(.slice none 0 0)∧St c b w o []) ?_ ?_
 ·refine Wb ?_
  refine WP.loopM (zE8 i) (fun s f w=>match s with | _=>∃ (j:Hp),f 3=(.slice none 0 0)∧f 7=(int (i.length:Int))∧f 8=(int 0)∧St c b w j []) () q (lfW t) ?_ ?_
  ·exact ⟨b,rfl,rfl,rfl,S⟩
  intro s f w hI y7 d u
  obtain ⟨j,x,z,h4,S⟩:=hI
  refine Ws<|Wg<|La' h4 z<|We<|Ws ?_
  rcases condE d with ⟨k,d⟩ | ⟨k,d⟩
  ·refine CT k ?_
   cases d
  refine CF k<|Wx ?_
  obtain rfl:=oi d
  obtain rfl:=u
  exact ⟨j,x,S⟩
 rintro f w ⟨o,h6,S⟩
 refine Ws<|Wg<|M' h6<|A<|We ?_
 exact WP.ret (Rl h S Sl.nil)
theorem zAA {b:World} {d:Hp} (hw:Holds b d) (hG:Tryz.Gl b) (f:List Str) {j:Value} (k:Sl d j f) {r:List Str} (h:zAb f=some r) :
  Con Tryz.prog 79 [j] b d (fun H' v=>Sl H' v r):=by
 unfold zAb at h
 refine CM 8 Tryz.func79 hw fun S=>?_
 refine Ws<|Wg<|A<|We<|Ws<|Ws<|Wg<|M ?_
 rcases Sl.nilE k with ⟨c,hv,hl⟩ | ⟨a,n,c,hv⟩
 ·refine WL.w (R.eqNil hv rfl Tryz.underlying45)<|We<|CT rfl<|Ws<|Wg<|A<|We ?_
  refine WP.ret (Out.one rfl S rfl ?_)
  subst hl
  obtain rfl:=oi h
  exact Sl.nil
 refine WL.w (R.eqNil hv rfl Tryz.underlying45)<|We<|CF rfl<|Wk<|Ws<|Wg<|W.bslice (α:=Str) (n:=0) (ps:=[]) [] [] S el45 rfl rfl rfl (by decide) (fun i v x h=>by cases h) ?_
 intro u q t l o S
 have Rp:=k.up l
 refine M<|W.app (α:=Str) (i:=0) S el45 rfl rfl rfl o Rp h ?_
 intro z w2 H2 ac p S
 refine A<|We ?_
 refine WP.ret (Out.one rfl S rfl ?_)
 exact p
theorem zAC {b:World} {d:Hp} (hw:Holds b d) (hG:Tryz.Gl b) (f:List GField) {j:Value} (k:Sl d j f) {r:List GField} (h:zAZ f=some r) :
  Con Tryz.prog 202 [j] b d (fun H' v=>Sl H' v r):=by
 unfold zAZ at h
 refine CM 8 Tryz.func202 hw fun S=>?_
 refine Ws<|Wg<|A<|We<|Ws<|Ws<|Wg<|M ?_
 rcases Sl.nilE k with ⟨c,hv,hl⟩ | ⟨a,n,c,hv⟩
 ·refine WL.w (R.eqNil hv rfl Tryz.underlying22)<|We<|CT rfl<|Ws<|Wg<|A<|We ?_
  refine WP.ret (Out.one rfl S rfl ?_)
  subst hl
  obtain rfl:=oi h
  exact Sl.nil
 refine WL.w (R.eqNil hv rfl Tryz.underlying22)<|We<|CF rfl<|Wk<|Ws<|Wg<|W.bslice (α:=GField) (n:=0) (ps:=[]) [] [] S el22 rfl rfl rfl (by decide) (fun i v x h=>by cases h) ?_
 intro u q t l o S
 have Rp:=k.up l
 refine M<|W.app (α:=GField) (i:=0) S el22 rfl rfl rfl o Rp h ?_
 intro z w2 H2 ac p S
 refine A<|We ?_
 refine WP.ret (Out.one rfl S rfl ?_)
 exact p
end Go.Proofs
