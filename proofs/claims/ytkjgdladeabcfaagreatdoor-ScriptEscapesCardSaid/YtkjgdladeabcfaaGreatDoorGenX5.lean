/- A part. -/
import Derived.Test.YtkjgdladeabcfaaGreatDoorEng38
import Derived.Test.YtkjgdladeabcfaaGreatDoorEng36
import Derived.Test.YtkjgdladeabcfaaGreatDoorGenX4
namespace Go.Proofs
set_option maxHeartbeats 4000000
set_option maxRecDepth 10000
open Go.Eng Go.Eng.Pure
set_option linter.unusedVariables false
theorem zA3 {j:World} {d:Hp} (hw:Holds j d) (hG:Tryz.Gl j) (ai:Str) {r:Str} (h:zAa ai=some r) :
  Cs Tryz.prog 7 [(str ai)] j d r:=by
 refine CM 56 Tryz.func7 hw fun S=>?_
 refine Ws<|Wg<|A<|We<|Ws<|Wg ?_
 refine W.alloc [(.pointer none),(.slice none 0 0)] S zer33 ?_
 intro i w2 S
 refine We<|Ws<|Ws<|Wg<|M<|Ns<|M<|We ?_
 obtain ⟨v3,au⟩:∃ v:Value,v=.slice none 0 0:=⟨_,rfl⟩
 have R5:Sl (α:=UInt8) d v3 []:=by rw [au]; exact Sl.nil
 replace S:=(show ∀ {w:World},St j d w d [.box i 33 [(.pointer none),(.slice none 0 0)]]→St j d w d [.box i 33 [(.pointer none),v3]] from fun S=>by rw [au]; exact S) S
 replace S:=St.addNilV au S 5 1
 refine B h fun aj bl h=>WP.cut (fun f w=>∃ (aq:Hp) (ah:Value) (ac:Value),f 3=(ptr i 0)∧(ah=Value.pointer none∨ah=ptr i 0)∧Sl aq ac aj∧St j d w aq [.row ac 5 1 aj.length,.box i 33 [ah,ac]]) ?_ ?_
 ·refine Wb ?_
  refine WP.loopM (zAR ai) (fun s f w=>match s with | (bd,o)=>∃ (x:Hp) (u:Value) (l:Value),f 0=(str ai)∧f 3=(ptr i 0)∧f 7=(int (ai.length:Int))∧f 8=(int bd)∧(u=Value.pointer none∨u=ptr i 0)∧Sl x l o∧St j d w x [.row l 5 1 o.length,.box i 33 [u,l]]) (0,([]:List UInt8)) aj (lfW bl) ?_ ?_
  ·exact ⟨d,.pointer none,v3,rfl,rfl,rfl,rfl,(Or.inl rfl),R5,S⟩
  intro s f w hI cm c bn
  obtain ⟨bd,o⟩:=s
  obtain ⟨x,u,l,h7,t,h9,ab,af,z,S⟩:=hI
  refine Ws<|Wg<|La' ab h9<|We<|Ws ?_
  rcases condE c with ⟨av,c⟩ | ⟨av,c⟩
  ·refine CT av<|Wk<|Ws<|Wb<|Ws<|Wg<|M' ab<|A<|We<|Ws<|Wg<|M' h7 ?_
   refine M<|B c fun k bo c=>Ja bo<|A<|We<|Wb<|Ws<|Wg<|M<|Me k 92<|A<|We ?_
   rcases condE c with ⟨aw,c⟩ | ⟨aw,c⟩
   ·refine CT aw<|Wg ?_
    replace S:=S.front 1 rfl
    replace S:St j d _ x [.box i 33 [u,l],.row l 5 1 o.length]:=S
    refine B c fun be bp c=>W.callS (mapC t (mapC rfl mapN)) (zAD hG [92,92] o S z af bp) ?_
    rintro cn co ax cp cq S ⟨ay,ak,rfl,rfl,bq,br⟩
    replace S:St j d _ ax [.box i 33 [ay,ak],.row ak 5 1 be.2.2.length]:=S
    replace S:=S.front 1 rfl
    replace S:St j d _ ax [.row ak 5 1 be.2.2.length,.box i 33 [ay,ak]]:=S
    refine We<|Wg<|Lg' ab rfl<|M<|We ?_
    obtain rfl:=oi c
    exact ⟨rfl,⟨ax,ay,ak,h7,t,h9,rfl,bq,br,S⟩⟩
   refine CF aw<|Ws<|Wg<|M<|Me k 13<|A<|We ?_
   rcases condE c with ⟨az,c⟩ | ⟨az,c⟩
   ·refine CT az<|Wg ?_
    replace S:=S.front 1 rfl
    replace S:St j d _ x [.box i 33 [u,l],.row l 5 1 o.length]:=S
    refine B c fun bf bs c=>W.callS (mapC t (mapC rfl mapN)) (zAD hG [92,114] o S z af bs) ?_
    rintro cr cs a0 ct cu S ⟨a1,al,rfl,rfl,bt,bu⟩
    replace S:St j d _ a0 [.box i 33 [a1,al],.row al 5 1 bf.2.2.length]:=S
    replace S:=S.front 1 rfl
    replace S:St j d _ a0 [.row al 5 1 bf.2.2.length,.box i 33 [a1,al]]:=S
    refine We<|Wg<|Lg' ab rfl<|M<|We ?_
    obtain rfl:=oi c
    exact ⟨rfl,⟨a0,a1,al,h7,t,h9,rfl,bt,bu,S⟩⟩
   refine CF az<|Ws<|Wg<|M<|Me k 10<|A<|We ?_
   rcases condE c with ⟨a2,c⟩ | ⟨a2,c⟩
   ·refine CT a2<|Wg ?_
    replace S:=S.front 1 rfl
    replace S:St j d _ x [.box i 33 [u,l],.row l 5 1 o.length]:=S
    refine B c fun bg bv c=>W.callS (mapC t (mapC rfl mapN)) (zAD hG [92,110] o S z af bv) ?_
    rintro cv cw a3 cx cy S ⟨a4,am,rfl,rfl,bw,bx⟩
    replace S:St j d _ a3 [.box i 33 [a4,am],.row am 5 1 bg.2.2.length]:=S
    replace S:=S.front 1 rfl
    replace S:St j d _ a3 [.row am 5 1 bg.2.2.length,.box i 33 [a4,am]]:=S
    refine We<|Wg<|Lg' ab rfl<|M<|We ?_
    obtain rfl:=oi c
    exact ⟨rfl,⟨a3,a4,am,h7,t,h9,rfl,bw,bx,S⟩⟩
   refine CF a2<|Ws<|Wg<|M<|Me k 9<|A<|We ?_
   rcases condE c with ⟨a5,c⟩ | ⟨a5,c⟩
   ·refine CT a5<|Wg ?_
    replace S:=S.front 1 rfl
    replace S:St j d _ x [.box i 33 [u,l],.row l 5 1 o.length]:=S
    refine B c fun bh bz c=>W.callS (mapC t (mapC rfl mapN)) (zAD hG [92,116] o S z af bz) ?_
    rintro cz c0 a6 c1 c2 S ⟨a7,an,rfl,rfl,b0,b2⟩
    replace S:St j d _ a6 [.box i 33 [a7,an],.row an 5 1 bh.2.2.length]:=S
    replace S:=S.front 1 rfl
    replace S:St j d _ a6 [.row an 5 1 bh.2.2.length,.box i 33 [a7,an]]:=S
    refine We<|Wg<|Lg' ab rfl<|M<|We ?_
    obtain rfl:=oi c
    exact ⟨rfl,⟨a6,a7,an,h7,t,h9,rfl,b0,b2,S⟩⟩
   refine CF a5<|Ws<|Wg<|M<|Ma k 32<|M ?_
   refine WL.grp 3 [36,37] 38 (boo ((decide (k<32))||(decide (126<k)))) ?_ ?_
   ·rcases boolE (decide (k<32)) with aa | aa
    ·refine Gn aa<|Gn aa<|Pt aa ?_
     exact We ⟨(orT aa),ag,rfl⟩
    refine Gy aa<|M<|Gy aa<|Mc k 126<|Pf aa ?_
    exact We ⟨(orF aa),ag,rfl⟩
   intro us
   refine A<|We ?_
   rcases condE c with ⟨a8,c⟩ | ⟨a8,c⟩
   ·refine CT a8<|WP.quietTail 14 S kr kr<|QM ?_
    refine WQ.val (fun _ _=>(R.quo8 (a:=k) (b:=16) rfl rfl (by decide)))<|QM ?_
    refine WQ.val (fun _ _=>(R.quo8 (a:=k) (b:=16) rfl rfl (by decide)))<|QMg (k / 16) 1<|B c fun c3 b3 c=>?_
    refine WQ.val (fun _ _=>(R.subS8 (p:=k / 16) (q:=(k / 16)+1) rfl rfl rfl Tryz.underlying9 b3))<|B c fun c4 b4 c=>QJe b4<|QM ?_
    refine WQ.val (fun _ _=>(R.rem8 (a:=k) (b:=16) rfl rfl (by decide)))<|QM ?_
    refine WQ.val (fun _ _=>(R.rem8 (a:=k) (b:=16) rfl rfl (by decide)))<|QMg (k % 16) 1<|B c fun c5 b5 c=>?_
    refine WQ.val (fun _ _=>(R.subS8 (p:=k % 16) (q:=(k % 16)+1) rfl rfl rfl Tryz.underlying9 b5))<|B c fun b6 b7 c=>QJe b7<|WQ.nil ?_
    intro c6 b8 b9 S
    have z:=z.up b9
    replace S:=S.front 1 rfl
    replace S:St j d _ b8 [.box i 33 [u,l],.row l 5 1 o.length]:=S
    refine B c fun bi ca c=>W.callS (mapC t (mapC rfl mapN)) (zAD hG b6 o S z af ca) ?_
    rintro c7 c8 a9 c9 da S ⟨ba,ao,rfl,rfl,cb,cc⟩
    replace S:St j d _ a9 [.box i 33 [ba,ao],.row ao 5 1 bi.2.2.length]:=S
    replace S:=S.front 1 rfl
    replace S:St j d _ a9 [.row ao 5 1 bi.2.2.length,.box i 33 [ba,ao]]:=S
    refine We<|Wg<|Lg' ab rfl<|M<|We ?_
    obtain rfl:=oi c
    exact ⟨rfl,⟨a9,ba,ao,h7,t,h9,rfl,cb,cc,S⟩⟩
   refine CF a8<|Wg<|M ?_
   replace S:=S.front 1 rfl
   replace S:St j d _ x [.box i 33 [u,l],.row l 5 1 o.length]:=S
   refine B c fun bj cd c=>W.callS (mapC t (mapC rfl mapN)) (zAZ hG k o S z af cd) ?_
   rintro db dc bb dd de S ⟨bc,ap,rfl,rfl,ce,cf⟩
   replace S:St j d _ bb [.box i 33 [bc,ap],.row ap 5 1 bj.2.length]:=S
   replace S:=S.front 1 rfl
   replace S:St j d _ bb [.row ap 5 1 bj.2.length,.box i 33 [bc,ap]]:=S
   refine We<|Wg<|Lg' ab rfl<|M<|We ?_
   obtain rfl:=oi c
   exact ⟨rfl,⟨bb,bc,ap,h7,t,h9,rfl,ce,cf,S⟩⟩
  refine CF av<|Wx ?_
  obtain rfl:=oi c
  obtain rfl:=bn
  exact ⟨x,u,l,t,af,z,S⟩
 rintro f w ⟨aq,ah,ac,cg,ch,ci,S⟩
 refine Ws<|Wg ?_
 replace S:=S.front 1 rfl
 replace S:St j d _ aq [.box i 33 [ah,ac],.row ac 5 1 aj.length]:=S
 refine B h fun df cj h=>W.callS (mapC cg mapN) (zAT hG aj S ci ch cj) ?_
 rintro dg dh ck di dj S ⟨rfl,rfl⟩
 replace S:St j d _ ck [.box i 33 [ah,ac]]:=S
 refine A<|We ?_
 exact WP.ret (Rs h S)
theorem zBs {i:World} {j:Hp} (hw:Holds i j) (hG:Tryz.Gl i) {r:Bool} (h:zBD=some r) :
  Cb Tryz.prog 9 [] i j r:=by
 refine CM 18 Tryz.func9 hw fun S=>?_
 refine Ws<|Wg<|A<|We<|Ws<|Wg ?_
 refine WL.w (R.build [(0,(str [112])),(1,(int 1000)),(2,(int 4)),(3,(int 4))] [(str [112]),(int 1000),(int 4),(int 4),(boo false),(boo false)] bp45 zer45 rfl rfl)<|B h fun f l h=>W.call S rfl (zBw S.holds (hG.post S.post) (⟨[112],1000,4,4,false,false⟩:GConfig) [116,105,99,107,32,53,10,10,104,101,108,108,111,10,102,97,105,108,10,107,101,121,115,10] l) ?_
 rintro u v k x S rfl
 refine M ?_
 refine Ex ?_
 refine Ex<|A<|A<|We<|Ws<|Wg<|M<|Le<|M ?_
 refine WL.grp 3 [11,12] 13 (boo ((f.2==0)&&(f.1==[110,111,119,32,53,10,101,114,114,111,114,32,49,10,101,114,114,111,114,32,49,50,10,107,101,121,115,10]))) ?_ ?_
 ·rcases boolE (f.2==0) with b | b
  ·refine Gy b<|M<|Gy b<|Na<|Pt b ?_
   exact We ⟨(andT b),ag,rfl⟩
  refine Gn b<|Gn b<|Pf b ?_
  exact We ⟨(andF b),ag,rfl⟩
 intro us
 refine M<|B h fun o d h=>WL.grpw 3 [15,16] 17 (boo o) (fun w=>∃ H':Hp,k.le H'∧St i j w H' []) ?_ ?_
 ·rcases boolE ((f.2==0)&&(f.1==[110,111,119,32,53,10,101,114,114,111,114,32,49,10,101,114,114,111,114,32,49,50,10,107,101,121,115,10])) with c | c
  ·replace d:=condT d c
   refine Gy c<|B d fun z p d=>W.call S rfl (zA3 S.holds (hG.post S.post) [97,13,10,128] p) ?_
   rintro aa ab q t S rfl
   refine Gy c<|Na<|Pt c ?_
   exact We ⟨(ob d),ag,⟨q,t,S⟩⟩
  replace d:=condF d c
  refine Gn c<|Gn c<|Pf c ?_
  exact We ⟨(ob d),ag,⟨k,lr,S⟩⟩
 intro us ac ⟨ad,ae,S⟩
 refine A<|We ?_
 exact WP.ret (Rb h S)
theorem zBp {d:World} {f:Hp} (hw:Holds d f) (hG:Tryz.Gl d) (c:UInt8) {r:Bool} (h:zBa c=some r) :
  Cb Tryz.prog 18 [(byt c)] d f r:=by
 refine CM 9 Tryz.func18 hw fun S=>?_
 refine Ws<|Wg<|A<|We<|Ws<|Wg<|M<|Md c 48<|M ?_
 refine WL.grp 3 [6,7] 8 (boo ((decide (48≤c))&&(decide (c≤57)))) ?_ ?_
 ·rcases boolE (decide (48≤c)) with b | b
  ·refine Gy b<|M<|Gy b<|Mb c 57<|Pt b ?_
   exact We ⟨(andT b),ag,rfl⟩
  refine Gn b<|Gn b<|Pf b ?_
  exact We ⟨(andF b),ag,rfl⟩
 intro us
 refine A<|We ?_
 exact WP.ret (Rb h S)
theorem zAt {f:World} {l:Hp} (hw:Holds f l) (hG:Tryz.Gl f) (b:UInt8) {r:Int} (h:zAr b=some r) :
  Ci Tryz.prog 11 [(byt b)] f l r:=by
 refine CM 31 Tryz.func11 hw fun S=>?_
 refine Ws<|Wg<|A<|We<|Ws<|Wb<|Ws<|Wg<|M<|B h fun p o h=>W.call S rfl (zBp S.holds (hG.post S.post) b o) ?_
 rintro q t u v S rfl
 refine A<|We ?_
 rcases condE h with ⟨i,h⟩ | ⟨i,h⟩
 ·refine CT i<|Ws<|Wg<|M<|Mh b 48 ?_
  refine WL.w (R.i64of8 (a:=b - 48) rfl Tryz.underlying5 Tryz.underlying3)<|A<|We ?_
  exact WP.ret (Ri h S)
 refine CF i<|Ws<|Wg<|M<|Md b 97<|M ?_
 refine WL.grp 3 [13,14] 15 (boo ((decide (97≤b))&&(decide (b≤102)))) ?_ ?_
 ·rcases boolE (decide (97≤b)) with c | c
  ·refine Gy c<|M<|Gy c<|Mb b 102<|Pt c ?_
   exact We ⟨(andT c),ag,rfl⟩
  refine Gn c<|Gn c<|Pf c ?_
  exact We ⟨(andF c),ag,rfl⟩
 intro us
 refine A<|We ?_
 rcases condE h with ⟨j,h⟩ | ⟨j,h⟩
 ·refine CT j<|Ws<|Wg<|M<|Mh b 97 ?_
  refine WL.w (R.i64of8 (a:=b - 97) rfl Tryz.underlying5 Tryz.underlying3)<|Lg<|A<|We ?_
  exact WP.ret (Ri h S)
 refine CF j<|Ws<|Wg<|M<|Md b 65<|M ?_
 refine WL.grp 3 [24,25] 26 (boo ((decide (65≤b))&&(decide (b≤70)))) ?_ ?_
 ·rcases boolE (decide (65≤b)) with d | d
  ·refine Gy d<|M<|Gy d<|Mb b 70<|Pt d ?_
   exact We ⟨(andT d),ag,rfl⟩
  refine Gn d<|Gn d<|Pf d ?_
  exact We ⟨(andF d),ag,rfl⟩
 intro us
 refine A<|We ?_
 rcases condE h with ⟨k,h⟩ | ⟨k,h⟩
 ·refine CT k<|Ws<|Wg<|M<|Mh b 65 ?_
  refine WL.w (R.i64of8 (a:=b - 65) rfl Tryz.underlying5 Tryz.underlying3)<|Lg<|A<|We ?_
  exact WP.ret (Ri h S)
 refine CF k<|Wk<|Ws<|Wg<|A<|We ?_
 exact WP.ret (Ri h S)
theorem zBX {u:World} {x:Hp} (hw:Holds u x) (hG:Tryz.Gl u) (z:Str) {r:(Str×Bool)} (h:zAh z=some r) :
  Con Tryz.prog 6 [(str z)] u x (fun H' v=>v=(.tuple ⟨[(str r.1),(boo r.2)]⟩)):=by
 refine CM 100 Tryz.func6 hw fun S=>?_
 refine Ws<|Wg<|A<|A<|We<|Ws<|Wg<|A<|We<|Ws<|Ws<|Wg ?_
 refine A<|We ?_
 have S:=S.addNil 5 1
 refine B h fun aj a5 h=>WP.cut (fun f w=>match aj with | .inl ak=>∃ (H9:Hp) (ah:Value),f 4=ah∧Sl H9 ah ak∧St u x w H9 [.row ah 5 1 ak.length] | .inr _=>False) ?_ ?_
 ·refine Wb ?_
  refine WP.loopM (zAP z) (fun s f w=>match s with | (ac,ad)=>∃ (H1:Hp) (q:Value),f 0=(str z)∧f 4=q∧f 5=(int ad)∧Sl H1 q ac∧St u x w H1 [.row q 5 1 ac.length]) (([]:List UInt8),0) aj (lfW a5) ?_ ?_
  ·exact ⟨x,.slice none 0 0,rfl,rfl,rfl,Sl.nil,S⟩
  intro s f w hI c0 b ae
  obtain ⟨ac,ad⟩:=s
  obtain ⟨H1,q,k,h6,h8,c,S⟩:=hI
  refine Ws<|Ws<|Wg<|M' h8<|M' k<|Ns<|La<|We ?_
  rcases condE b with ⟨am,b⟩ | ⟨am,b⟩
  ·refine CT am<|Wk<|Ws<|Wb<|Ws<|Wg<|M' k<|M' h8<|B b fun t a6 b=>Ja a6<|A<|We<|Ws<|Ws<|Wg<|M<|Ma t 32<|M ?_
   refine WL.grp 3 [19,20] 21 (boo ((decide (t<32))||(decide (126<t)))) ?_ ?_
   ·rcases boolE (decide (t<32)) with p | p
    ·refine Gn p<|Gn p<|Pt p ?_
     exact We ⟨(orT p),ag,rfl⟩
    refine Gy p<|M<|Gy p<|Mc t 126<|Pf p ?_
    exact We ⟨(orF p),ag,rfl⟩
   intro us
   refine We ?_
   rcases condE b with ⟨an,b⟩ | ⟨an,b⟩
   ·refine CT an<|Ws<|Wg<|A<|A<|We ?_
    obtain rfl:=oi b
    obtain rfl:=ae
    obtain rfl:=oi h
    refine WP.ret (Out.two rfl S rfl rfl ?_)
    exact rfl
   refine CF an<|Wk<|Ws<|Ws<|Wg<|M<|Mf t 92<|We ?_
   rcases condE b with ⟨ao,b⟩ | ⟨ao,b⟩
   ·refine CT ao<|Ws<|Wg<|M' h6<|M<|W.bslice (α:=UInt8) [(byt t)] ([t]:List UInt8) S el27 rfl rfl rfl (by decide) (Go.Eng.encS ⟨rfl,rfl⟩ enc0) ?_
    intro c1 c2 c3 a7 a8 S
    have c:=c.up a7
    refine B b fun c4 a9 b=>W.app (α:=UInt8) (i:=1) S el27 rfl rfl rfl c a8 a9 ?_
    intro ba c5 bb bc bd S
    have c:=c.up bc
    refine A<|We<|Wx<|Wg<|M' h8<|Lg<|A<|We ?_
    obtain rfl:=oi b
    exact ⟨rfl,⟨bb,ba,k,rfl,rfl,bd,(S.pk [1])⟩⟩
   refine CF ao<|Wk<|Ws<|Wg<|M' h8<|Lg<|A<|We<|Ws<|Ws<|Wg<|M ?_
   refine M' k<|Ns<|Le<|We ?_
   rcases condE b with ⟨ap,b⟩ | ⟨ap,b⟩
   ·refine CT ap<|Ws<|Wg<|A<|A<|We ?_
    obtain rfl:=oi b
    obtain rfl:=ae
    obtain rfl:=oi h
    refine WP.ret (Out.two rfl S rfl rfl ?_)
    exact rfl
   refine CF ap<|Wk<|Ws<|Wg<|M' k<|M<|B b fun af be b=>Ja be<|We<|Wb<|Ws<|Wg<|Me af 92<|A<|We ?_
   rcases condE b with ⟨aq,b⟩ | ⟨aq,b⟩
   ·refine CT aq<|Wg<|M' h6<|W.bslice (α:=UInt8) [(byt 92)] ([92]:List UInt8) S el27 rfl rfl rfl (by decide) (Go.Eng.encS ⟨rfl,rfl⟩ enc0) ?_
    intro c6 c7 c8 bf bg S
    have c:=c.up bf
    refine B b fun c9 bh b=>W.app (α:=UInt8) (i:=1) S el27 rfl rfl rfl c bg bh ?_
    intro bi da bj bk bl S
    have c:=c.up bk
    refine A<|We<|Wg<|M<|Lg<|A<|We ?_
    obtain rfl:=oi b
    exact ⟨rfl,⟨bj,bi,k,rfl,rfl,bl,(S.pk [1])⟩⟩
   refine CF aq<|Ws<|Wg<|Me af 114<|A<|We ?_
   rcases condE b with ⟨ar,b⟩ | ⟨ar,b⟩
   ·refine CT ar<|Wg<|M' h6<|W.bslice (α:=UInt8) [(byt 13)] ([13]:List UInt8) S el27 rfl rfl rfl (by decide) (Go.Eng.encS ⟨rfl,rfl⟩ enc0) ?_
    intro db dc dd bn bo S
    have c:=c.up bn
    refine B b fun de bp b=>W.app (α:=UInt8) (i:=1) S el27 rfl rfl rfl c bo bp ?_
    intro bq df br bs bt S
    have c:=c.up bs
    refine A<|We<|Wg<|M<|Lg<|A<|We ?_
    obtain rfl:=oi b
    exact ⟨rfl,⟨br,bq,k,rfl,rfl,bt,(S.pk [1])⟩⟩
   refine CF ar<|Ws<|Wg<|Me af 110<|A<|We ?_
   rcases condE b with ⟨au,b⟩ | ⟨au,b⟩
   ·refine CT au<|Wg<|M' h6<|W.bslice (α:=UInt8) [(byt 10)] ([10]:List UInt8) S el27 rfl rfl rfl (by decide) (Go.Eng.encS ⟨rfl,rfl⟩ enc0) ?_
    intro dg dh di bu bv S
    have c:=c.up bu
    refine B b fun dj bw b=>W.app (α:=UInt8) (i:=1) S el27 rfl rfl rfl c bv bw ?_
    intro bx dk bz b0 b1 S
    have c:=c.up b0
    refine A<|We<|Wg<|M<|Lg<|A<|We ?_
    obtain rfl:=oi b
    exact ⟨rfl,⟨bz,bx,k,rfl,rfl,b1,(S.pk [1])⟩⟩
   refine CF au<|Ws<|Wg<|Me af 116<|A<|We ?_
   rcases condE b with ⟨av,b⟩ | ⟨av,b⟩
   ·refine CT av<|Wg<|M' h6<|W.bslice (α:=UInt8) [(byt 9)] ([9]:List UInt8) S el27 rfl rfl rfl (by decide) (Go.Eng.encS ⟨rfl,rfl⟩ enc0) ?_
    intro dl dm dn b2 b3 S
    have c:=c.up b2
    refine B b fun dp b4 b=>W.app (α:=UInt8) (i:=1) S el27 rfl rfl rfl c b3 b4 ?_
    intro b5 dq b6 b7 b8 S
    have c:=c.up b7
    refine A<|We<|Wg<|M<|Lg<|A<|We ?_
    obtain rfl:=oi b
    exact ⟨rfl,⟨b6,b5,k,rfl,rfl,b8,(S.pk [1])⟩⟩
   refine CF av<|Ws<|Wg<|Me af 120<|A<|We ?_
   rcases condE b with ⟨aw,b⟩ | ⟨aw,b⟩
   ·refine CT aw<|Ws<|Ws<|Wg<|M<|Lg<|M' k<|Ns<|Ld<|M<|B b fun ay l b=>WL.grpw 7 [65,66,67,68,69,70] 71 (boo ay) (fun w=>∃ H':Hp,H1.le H'∧St u x w H' [.row q 5 1 ac.length]) ?_ ?_
    ·rcases boolE (decide ((z.length:Int)≤(wr ((wr (ad+1))+2)))) with d | d
     ·replace l:=condT l d
      refine Gn d<|Gn d<|Gn d<|Gn d<|Gn d<|Gn d<|Pt d ?_
      exact We ⟨(ob l),ag,⟨H1,lr,S⟩⟩
     replace l:=condF l d
     refine Gy d<|M' k<|Gy d<|M<|Gy d<|Lg<|Gy d<|B l fun b9 ca l=>Ja ca<|Gy d<|B l fun dr cb l=>W.call S rfl (zAt S.holds (hG.post S.post) b9 cb) ?_
     rintro ds dt cc az S rfl
     have c:=c.up az
     refine Gy d<|La<|Pf d ?_
     exact We ⟨(ob l),ag,⟨cc,az,S⟩⟩
    intro us du ⟨a0,cd,S⟩
    have c:=c.up cd
    refine M<|B b fun ce o b=>WL.grpw 7 [73,74,75,76,77,78] 79 (boo ce) (fun w=>∃ H':Hp,a0.le H'∧St u x w H' [.row q 5 1 ac.length]) ?_ ?_
    ·rcases boolE ay with j | j
     ·replace o:=condT o j
      refine Gn j<|Gn j<|Gn j<|Gn j<|Gn j<|Gn j<|Pt j ?_
      exact We ⟨(ob o),ag,⟨a0,lr,S⟩⟩
     replace o:=condF o j
     refine Gy j<|M' k<|Gy j<|M<|Gy j<|Lg<|Gy j<|B o fun cf cg o=>Ja cg<|Gy j<|B o fun dv ch o=>W.call S rfl (zAt S.holds (hG.post S.post) cf ch) ?_
     rintro dw dx ci a1 S rfl
     have c:=c.up a1
     refine Gy j<|La<|Pf j ?_
     exact We ⟨(ob o),ag,⟨ci,a1,S⟩⟩
    intro us dy ⟨dz,cj,S⟩
    have c:=c.up cj
    refine We ?_
    rcases condE b with ⟨ax,b⟩ | ⟨ax,b⟩
    ·refine CT ax<|Ws<|Wg<|A<|A<|We ?_
     obtain rfl:=oi b
     obtain rfl:=ae
     obtain rfl:=oi h
     refine WP.ret (Out.two rfl S rfl rfl ?_)
     exact rfl
    refine CF ax<|Wk<|Ws<|WP.draw kr 17 rfl (bm 17 0) rfl ?_
    have S:=S.drew
    refine At_ 0 17 1 rfl (fun _=>(R.mv (v:=q) h6)) ?_
    refine At_ 1 17 3 rfl (fun _=>(R.mv (v:=str z) k)) ?_
    refine At_ 2 17 7 rfl (fun _=>(R.mv (v:=int (wr (ad+1))) rfl)) ?_
    refine At_ 3 17 15 rfl (fun _=>(R.add rfl rfl))<|B b fun ck cl b=>?_
    refine At_ 4 17 31 rfl (fun _=>(R.idxS rfl rfl Tryz.underlying9 cl)) ?_
    refine At_ 7 17 159 rfl (fun _=>(R.mv (v:=str z) k)) ?_
    refine At_ 8 17 415 rfl (fun _=>(R.mv (v:=int (wr (ad+1))) rfl)) ?_
    refine At_ 9 17 927 rfl (fun _=>(R.add rfl rfl))<|B b fun cm cn b=>?_
    refine At_ 10 17 1951 rfl (fun _=>(R.idxS rfl rfl Tryz.underlying9 cn))<|WA.one (i:=5) (bm 17 1983) rfl kr rfl<|B b fun a2 co b=>W.call S rfl (zAt S.holds (hG.post S.post) ck co) ?_
    rintro d0 d1 d2 cp S rfl
    have c:=c.up cp
    refine We ?_
    refine At_ 6 17 2047 rfl (fun _=>(R.mul rfl rfl))<|WA.one (i:=11) (bm 17 4095) rfl kr rfl<|B b fun a3 cq b=>W.call S rfl (zAt S.holds (hG.post S.post) cm cq) ?_
    rintro d3 d4 d5 cr S rfl
    have c:=c.up cr
    refine We ?_
    refine At_ 12 17 8191 rfl (fun _=>(R.add rfl rfl))<|WA.one (i:=13) (bm 17 16383) rfl kr rfl ?_
    refine WL.w (R.u8of64 rfl Tryz.underlying3 Tryz.underlying5)<|We<|WA.one (i:=14) (bm 17 32767) rfl kr rfl<|W.bslice (α:=UInt8) [(byt (toU8 (wr ((wr (a2*16))+a3))))] ([toU8 (wr ((wr (a2*16))+a3))]:List UInt8) S el27 rfl rfl rfl (by decide) (Go.Eng.encS ⟨rfl,rfl⟩ enc0) ?_
    intro d6 d7 d8 cs ct S
    have c:=c.up cs
    refine We<|WA.one (i:=15) (bm 17 65535) rfl kr rfl<|B b fun d9 cu b=>W.app (α:=UInt8) (i:=1) S el27 rfl rfl rfl c ct cu ?_
    intro a4 ea cv cw cx S
    have c:=c.up cw
    refine We ?_
    refine At_ 16 17 131071 rfl (fun _=>(R.as (v:=a4) rfl))<|WA.done kr<|Wg<|M<|Lg<|A<|We<|Wg<|M<|Lg<|A ?_
    refine We ?_
    obtain rfl:=oi b
    exact ⟨rfl,⟨cv,a4,k,rfl,rfl,cx,(S.pk [1])⟩⟩
   refine CF aw<|Ws<|Wg<|A<|A<|We ?_
   obtain rfl:=oi b
   obtain rfl:=ae
   obtain rfl:=oi h
   refine WP.ret (Out.two rfl S rfl rfl ?_)
   exact rfl
  refine CF am<|Wx ?_
  obtain rfl:=oi b
  obtain rfl:=ae
  exact ⟨H1,q,h6,c,S⟩
 intro f w hM
 rcases aj with ak | e
 ·obtain ⟨H9,ah,cy,cz,S⟩:=hM
  refine Ws<|Wg<|M' cy ?_
  refine WL.w (R.strL S cz rfl Tryz.underlying27 Tryz.underlying9 Tryz.underlying5)<|A<|A<|We ?_
  obtain rfl:=oi h
  refine WP.ret (Out.two rfl S rfl rfl ?_)
  exact rfl
 exact hM.elim
theorem zBj {o:World} {t:Hp} (hw:Holds o t) (hG:Tryz.Gl o) (u:Str) {r:Str} (h:zAs u=some r) :
  Cs Tryz.prog 8 [(str u)] o t r:=by
 refine CM 66 Tryz.func8 hw fun S=>?_
 refine Ws<|Wg<|A<|We<|Ws<|Wg<|A<|We<|Ws<|Ws<|Wg<|A ?_
 refine We<|B h fun ad ai h=>WP.cut (fun f w=>∃ (H7:Hp),f 3=(str ad)∧St o t w H7 []) ?_ ?_
 ·refine Wb ?_
  refine WP.loopM (zAU u) (fun s f w=>match s with | (af,ah)=>∃ (k:Hp),f 0=(str u)∧f 3=(str af)∧f 4=(int ah)∧St o t w k []) ([],0) ad (lfW ai) ?_ ?_
  ·exact ⟨t,rfl,rfl,rfl,S⟩
  intro s f w hI a0 b aj
  obtain ⟨af,ah⟩:=s
  obtain ⟨k,i,l,d,S⟩:=hI
  refine Ws<|Ws<|Wg<|M' d<|M' i<|Ns<|La<|We ?_
  rcases condE b with ⟨v,b⟩ | ⟨v,b⟩
  ·refine CT v<|Wk<|Ws<|Wb<|Ws<|Wg<|M' i<|M' d<|B b fun c ak b=>Ja ak<|A<|We<|Wb<|Ws<|Wg<|M<|Me c 92<|A<|We ?_
   rcases condE b with ⟨x,b⟩ | ⟨x,b⟩
   ·refine CT x<|Wg<|M' l<|B b fun a1 al b=>Je al<|A<|We<|Wg<|M' d<|Lg<|A<|We ?_
    obtain rfl:=oi b
    exact ⟨rfl,⟨k,i,rfl,rfl,S⟩⟩
   refine CF x<|Ws<|Wg<|M<|Me c 13<|A<|We ?_
   rcases condE b with ⟨z,b⟩ | ⟨z,b⟩
   ·refine CT z<|Wg<|M' l<|B b fun a2 am b=>Je am<|A<|We<|Wg<|M' d<|Lg<|A<|We ?_
    obtain rfl:=oi b
    exact ⟨rfl,⟨k,i,rfl,rfl,S⟩⟩
   refine CF z<|Ws<|Wg<|M<|Me c 10<|A<|We ?_
   rcases condE b with ⟨aa,b⟩ | ⟨aa,b⟩
   ·refine CT aa<|Wg<|M' l<|B b fun a3 an b=>Je an<|A<|We<|Wg<|M' d<|Lg<|A<|We ?_
    obtain rfl:=oi b
    exact ⟨rfl,⟨k,i,rfl,rfl,S⟩⟩
   refine CF aa<|Ws<|Wg<|M<|Me c 9<|A<|We ?_
   rcases condE b with ⟨ab,b⟩ | ⟨ab,b⟩
   ·refine CT ab<|Wg<|M' l<|B b fun a4 ao b=>Je ao<|A<|We<|Wg<|M' d<|Lg<|A<|We ?_
    obtain rfl:=oi b
    exact ⟨rfl,⟨k,i,rfl,rfl,S⟩⟩
   refine CF ab<|Ws<|Wg<|M<|Ma c 32<|M ?_
   refine WL.grp 3 [46,47] 48 (boo ((decide (c<32))||(decide (126<c)))) ?_ ?_
   ·rcases boolE (decide (c<32)) with j | j
    ·refine Gn j<|Gn j<|Pt j ?_
     exact We ⟨(orT j),ag,rfl⟩
    refine Gy j<|M<|Gy j<|Mc c 126<|Pf j ?_
    exact We ⟨(orF j),ag,rfl⟩
   intro us
   refine A<|We ?_
   rcases condE b with ⟨ac,b⟩ | ⟨ac,b⟩
   ·refine CT ac<|WP.quiet S kr kr<|QM' l<|QM ?_
    refine WQ.val (fun _ _=>(R.shr8u (a:=c) rfl rfl (by decide)))<|QM ?_
    refine WQ.val (fun _ _=>(R.shr8u (a:=c) rfl rfl (by decide)))<|QMg (shr8 c 4) 1<|B b fun a5 ap b=>?_
    refine WQ.val (fun _ _=>(R.subS8 (p:=shr8 c 4) (q:=(shr8 c 4)+1) rfl rfl rfl Tryz.underlying9 ap))<|B b fun a6 aq b=>QJe aq<|QM<|QNl c 15<|QM<|QNl c 15<|QMg (band c 15) 1<|B b fun a7 ar b=>?_
    refine WQ.val (fun _ _=>(R.subS8 (p:=band c 15) (q:=(band c 15)+1) rfl rfl rfl Tryz.underlying9 ar))<|B b fun a8 au b=>QJe au<|B b fun a9 av b=>QJe av<|QA<|WQ.nil ?_
    intro ba aw bb S
    refine Wg<|M' d<|Lg<|A<|We ?_
    obtain rfl:=oi b
    exact ⟨rfl,⟨aw,i,rfl,rfl,S⟩⟩
   refine CF ac<|Wg<|M' l<|M' i<|M' d<|M' d<|Lg<|B b fun bc ax b=>Jb ax<|B b fun bd ay b=>Je ay<|A<|We<|Wg<|M' d<|Lg<|A<|We ?_
   obtain rfl:=oi b
   exact ⟨rfl,⟨k,i,rfl,rfl,S⟩⟩
  refine CF v<|Wx ?_
  obtain rfl:=oi b
  obtain rfl:=aj
  exact ⟨k,l,S⟩
 rintro f w ⟨H7,h9,S⟩
 refine Ws<|Wg<|M' h9<|A<|We ?_
 exact WP.ret (Rs h S)
theorem zBI {p:World} {q:Hp} (hw:Holds p q) (hG:Tryz.Gl p) (i:Str) {r:Bool} (h:zAj i=some r) :
  Cb Tryz.prog 3 [(str i)] p q r:=by
 refine CM 38 Tryz.func3 hw fun S=>?_
 refine Ws<|Wg<|A<|We<|Ws<|Ws<|Wg<|M<|Ns<|Lc<|We ?_
 rcases condE h with ⟨t,h⟩ | ⟨t,h⟩
 ·refine CT t<|Ws<|Wg<|A<|We ?_
  exact WP.ret (Rb h S)
 refine CF t<|Wk<|Ws<|Wg<|M<|B h fun j v h=>W.call S rfl (zAw S.holds (hG.post S.post) i v) ?_
 rintro v3 w4 H5 aj S rfl
 refine M ?_
 refine Ex ?_
 refine Ex<|A<|A<|We<|Ws<|Wg<|M<|B h fun k x h=>W.call S rfl (zBX S.holds (hG.post S.post) i x) ?_
 rintro v8 w9 am an S rfl
 refine M ?_
 refine Ex ?_
 refine Ex<|A<|A<|We<|Ws<|Wg<|M<|B h fun l z h=>W.call S rfl (zA3 S.holds (hG.post S.post) i z) ?_
 rintro ao ap aq ar S rfl
 refine M<|B h fun o aa h=>W.call S rfl (zBj S.holds (hG.post S.post) i aa) ?_
 rintro au av u aw S rfl
 refine Na<|M ?_
 refine WL.grp 4 [26,27,28] 29 (boo ((l==o)&&(j.1==k.1))) ?_ ?_
 ·rcases boolE (l==o) with b | b
  ·refine Gy b<|M<|Gy b<|M<|Gy b<|Na<|Pt b ?_
   exact We ⟨(andT b),ag,rfl⟩
  refine Gn b<|Gn b<|Gn b<|Pf b ?_
  exact We ⟨(andF b),ag,rfl⟩
 intro us
 refine M ?_
 refine WL.grp 4 [31,32,33] 34 (boo (((l==o)&&(j.1==k.1))&&(j.2==k.2))) ?_ ?_
 ·rcases boolE ((l==o)&&(j.1==k.1)) with c | c
  ·refine Gy c<|M<|Gy c<|M<|Gy c<|Ng<|Pt c ?_
   exact We ⟨(andT c),ag,rfl⟩
  refine Gn c<|Gn c<|Gn c<|Pf c ?_
  exact We ⟨(andF c),ag,rfl⟩
 intro us
 refine M<|B h fun ab d h=>WL.grpw 2 [36] 37 (boo ab) (fun w=>∃ H':Hp,u.le H'∧St p q w H' []) ?_ ?_
 ·rcases boolE (((l==o)&&(j.1==k.1))&&(j.2==k.2)) with f | f
  ·replace d:=condT d f
   refine Gy f<|B d fun ax ac d=>W.call S rfl (zBs S.holds (hG.post S.post)  ac) ?_
   rintro ay az ad ae S rfl
   refine Pt f ?_
   exact We ⟨(ob d),ag,⟨ad,ae,S⟩⟩
  replace d:=condF d f
  refine Gn f<|Pf f ?_
  exact We ⟨(ob d),ag,⟨u,lr,S⟩⟩
 intro us a0 ⟨a1,a2,S⟩
 refine A<|We ?_
 exact WP.ret (Rb h S)
end Go.Proofs
