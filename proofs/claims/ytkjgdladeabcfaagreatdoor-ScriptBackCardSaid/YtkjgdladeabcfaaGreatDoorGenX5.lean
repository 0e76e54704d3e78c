/- A part. -/
import Derived.Test.YtkjgdladeabcfaaGreatDoorEng38
import Derived.Test.YtkjgdladeabcfaaGreatDoorEng40
import Derived.Test.YtkjgdladeabcfaaGreatDoorGenX4
namespace Go.Proofs
set_option maxHeartbeats 4000000
set_option maxRecDepth 10000
open Go.Eng Go.Eng.Pure
set_option linter.unusedVariables false
theorem zA3 {j:World} {d:Hp} (hw:Holds j d) (hG:Tryz.Gl j) (ai:Str) {r:Str} (h:zAa ai=some r) :
  Cs Tryz.prog 7 [(str ai)] j d r:=by
 refine CM 56 Tryz.func7 hw fun S=>?_
 refine Ws<|Wg<|A<|We<|Ws<|Wg ?_
 refine W.alloc [(.pointer none),(.slice none 0 0)] S zer33 ?_
 intro i w2 S
 refine We<|Ws<|Ws<|Wg<|M<|Ns<|M<|We ?_
 obtain ⟨v3,au⟩:∃ v:Value,v=.slice none 0 0:=⟨_,rfl⟩
 have R5:Sl (α:=UInt8) d v3 []:=by rw [au]; exact Sl.nil
 replace S:=(show ∀ {w:World},St j d w d [.box i 33 [(.pointer none),(.slice none 0 0)]]→St j d w d [.box i 33 [(.pointer none),v3]] from fun S=>by rw [au]; exact S) S
 replace S:=St.addNilV au S 5 1
 refine B h fun aj bl h=>WP.cut (fun f w=>∃ (aq:Hp) (ah:Value) (ac:Value),f 3=(ptr i 0)∧(ah=Value.pointer none∨ah=ptr i 0)∧Sl aq ac aj∧St j d w aq [.row ac 5 1 aj.length,.box i 33 [ah,ac]]) ?_ ?_
 ·refine Wb ?_
  refine WP.loopM (zAR ai) (fun s f w=>match s with | (bd,o)=>∃ (x:Hp) (u:Value) (l:Value),f 0=(str ai)∧f 3=(ptr i 0)∧f 7=(int (ai.length:Int))∧f 8=(int bd)∧(u=Value.pointer none∨u=ptr i 0)∧Sl x l o∧St j d w x [.row l 5 1 o.length,.box i 33 [u,l]]) (0,([]:List UInt8)) aj (lfW bl) ?_ ?_
  ·exact ⟨d,.pointer none,v3,rfl,rfl,rfl,rfl,(Or.inl rfl),R5,S⟩
  intro s f w hI cm c bn
  obtain ⟨bd,o⟩:=s
  obtain ⟨x,u,l,h7,t,h9,ab,af,z,S⟩:=hI
  refine Ws<|Wg<|La' ab h9<|We<|Ws ?_
  rcases condE c with ⟨av,c⟩ | ⟨av,c⟩
  ·refine CT av<|Wk<|Ws<|Wb<|Ws<|Wg<|M' ab<|A<|We<|Ws<|Wg<|M' h7 ?_
   refine M<|B c fun k bo c=>Ja bo<|A<|We<|Wb<|Ws<|Wg<|M<|Me k 92<|A<|We ?_
   rcases condE c with ⟨aw,c⟩ | ⟨aw,c⟩
   ·refine CT aw<|Wg ?_
    replace S:=S.front 1 rfl
    replace S:St j d _ x [.box i 33 [u,l],.row l 5 1 o.length]:=S
    refine B c fun be bp c=>W.callS (mapC t (mapC rfl mapN)) (zAD hG [92,92] o S z af bp) ?_
    rintro cn co ax cp cq S ⟨ay,ak,rfl,rfl,bq,br⟩
    replace S:St j d _ ax [.box i 33 [ay,ak],.row ak 5 1 be.2.2.length]:=S
    replace S:=S.front 1 rfl
    replace S:St j d _ ax [.row ak 5 1 be.2.2.length,.box i 33 [ay,ak]]:=S
    refine We<|Wg<|Lg' ab rfl<|M<|We ?_
    obtain rfl:=oi c
    exact ⟨rfl,⟨ax,ay,ak,h7,t,h9,rfl,bq,br,S⟩⟩
   refine CF aw<|Ws<|Wg<|M<|Me k 13<|A<|We ?_
   rcases condE c with ⟨az,c⟩ | ⟨az,c⟩
   ·refine CT az<|Wg ?_
    replace S:=S.front 1 rfl
    replace S:St j d _ x [.box i 33 [u,l],.row l 5 1 o.length]:=S
    refine B c fun bf bs c=>W.callS (mapC t (mapC rfl mapN)) (zAD hG [92,114] o S z af bs) ?_
    rintro cr cs a0 ct cu S ⟨a1,al,rfl,rfl,bt,bu⟩
    replace S:St j d _ a0 [.box i 33 [a1,al],.row al 5 1 bf.2.2.length]:=S
    replace S:=S.front 1 rfl
    replace S:St j d _ a0 [.row al 5 1 bf.2.2.length,.box i 33 [a1,al]]:=S
    refine We<|Wg<|Lg' ab rfl<|M<|We ?_
    obtain rfl:=oi c
    exact ⟨rfl,⟨a0,a1,al,h7,t,h9,rfl,bt,bu,S⟩⟩
   refine CF az<|Ws<|Wg<|M<|Me k 10<|A<|We ?_
   rcases condE c with ⟨a2,c⟩ | ⟨a2,c⟩
   ·refine CT a2<|Wg ?_
    replace S:=S.front 1 rfl
    replace S:St j d _ x [.box i 33 [u,l],.row l 5 1 o.length]:=S
    refine B c fun bg bv c=>W.callS (mapC t (mapC rfl mapN)) (zAD hG [92,110] o S z af bv) ?_
    rintro cv cw a3 cx cy S ⟨a4,am,rfl,rfl,bw,bx⟩
    replace S:St j d _ a3 [.box i 33 [a4,am],.row am 5 1 bg.2.2.length]:=S
    replace S:=S.front 1 rfl
    replace S:St j d _ a3 [.row am 5 1 bg.2.2.length,.box i 33 [a4,am]]:=S
    refine We<|Wg<|Lg' ab rfl<|M<|We ?_
    obtain rfl:=oi c
    exact ⟨rfl,⟨a3,a4,am,h7,t,h9,rfl,bw,bx,S⟩⟩
   refine CF a2<|Ws<|Wg<|M<|Me k 9<|A<|We ?_
   rcases condE c with ⟨a5,c⟩ | ⟨a5,c⟩
   ·refine CT a5<|Wg ?_
    replace S:=S.front 1 rfl
    replace S:St j d _ x [.box i 33 [u,l],.row l 5 1 o.length]:=S
    refine B c fun bh bz c=>W.callS (mapC t (mapC rfl mapN)) (zAD hG [92,116] o S z af bz) ?_
    rintro cz c0 a6 c1 c2 S ⟨a7,an,rfl,rfl,b0,b2⟩
    replace S:St j d _ a6 [.box i 33 [a7,an],.row an 5 1 bh.2.2.length]:=S
    replace S:=S.front 1 rfl
    replace S:St j d _ a6 [.row an 5 1 bh.2.2.length,.box i 33 [a7,an]]:=S
    refine We<|Wg<|Lg' ab rfl<|M<|We ?_
    obtain rfl:=oi c
    exact ⟨rfl,⟨a6,a7,an,h7,t,h9,rfl,b0,b2,S⟩⟩
   refine CF a5<|Ws<|Wg<|M<|Ma k 32<|M ?_
   refine WL.grp 3 [36,37] 38 (boo ((decide (k<32))||(decide (126<k)))) ?_ ?_
   ·rcases boolE (decide (k<32)) with aa | aa
    ·refine Gn aa<|Gn aa<|Pt aa ?_
     exact We ⟨(orT aa),ag,rfl⟩
    refine Gy aa<|M<|Gy aa<|Mc k 126<|Pf aa ?_
    exact We ⟨(orF aa),ag,rfl⟩
   intro us
   refine A<|We ?_
   rcases condE c with ⟨a8,c⟩ | ⟨a8,c⟩
   ·refine CT a8<|WP.quietTail 14 S kr kr<|QM ?_
    refine WQ.val (fun _ _=>(R.quo8 (a:=k) (b:=16) rfl rfl (by decide)))<|QM ?_
    refine WQ.val (fun _ _=>(R.quo8 (a:=k) (b:=16) rfl rfl (by decide)))<|QMg (k / 16) 1<|B c fun c3 b3 c=>?_
    refine WQ.val (fun _ _=>(R.subS8 (p:=k / 16) (q:=(k / 16)+1) rfl rfl rfl Tryz.underlying9 b3))<|B c fun c4 b4 c=>QJe b4<|QM ?_
    refine WQ.val (fun _ _=>(R.rem8 (a:=k) (b:=16) rfl rfl (by decide)))<|QM ?_
    refine WQ.val (fun _ _=>(R.rem8 (a:=k) (b:=16) rfl rfl (by decide)))<|QMg (k % 16) 1<|B c fun c5 b5 c=>?_
    refine WQ.val (fun _ _=>(R.subS8 (p:=k % 16) (q:=(k % 16)+1) rfl rfl rfl Tryz.underlying9 b5))<|B c fun b6 b7 c=>QJe b7<|WQ.nil ?_
    intro c6 b8 b9 S
    have z:=z.up b9
    replace S:=S.front 1 rfl
    replace S:St j d _ b8 [.box i 33 [u,l],.row l 5 1 o.length]:=S
    refine B c fun bi ca c=>W.callS (mapC t (mapC rfl mapN)) (zAD hG b6 o S z af ca) ?_
    rintro c7 c8 a9 c9 da S ⟨ba,ao,rfl,rfl,cb,cc⟩
    replace S:St j d _ a9 [.box i 33 [ba,ao],.row ao 5 1 bi.2.2.length]:=S
    replace S:=S.front 1 rfl
    replace S:St j d _ a9 [.row ao 5 1 bi.2.2.length,.box i 33 [ba,ao]]:=S
    refine We<|Wg<|Lg' ab rfl<|M<|We ?_
    obtain rfl:=oi c
    exact ⟨rfl,⟨a9,ba,ao,h7,t,h9,rfl,cb,cc,S⟩⟩
   refine CF a8<|Wg<|M ?_
   replace S:=S.front 1 rfl
   replace S:St j d _ x [.box i 33 [u,l],.row l 5 1 o.length]:=S
   refine B c fun bj cd c=>W.callS (mapC t (mapC rfl mapN)) (zAZ hG k o S z af cd) ?_
   rintro db dc bb dd de S ⟨bc,ap,rfl,rfl,ce,cf⟩
   replace S:St j d _ bb [.box i 33 [bc,ap],.row ap 5 1 bj.2.length]:=S
   replace S:=S.front 1 rfl
   replace S:St j d _ bb [.row ap 5 1 bj.2.length,.box i 33 [bc,ap]]:=S
   refine We<|Wg<|Lg' ab rfl<|M<|We ?_
   obtain rfl:=oi c
   exact ⟨rfl,⟨bb,bc,ap,h7,t,h9,rfl,ce,cf,S⟩⟩
  refine CF av<|Wx ?_
  obtain rfl:=oi c
  obtain rfl:=bn
  exact ⟨x,u,l,t,af,z,S⟩
 rintro f w ⟨aq,ah,ac,cg,ch,ci,S⟩
 refine Ws<|Wg ?_
 replace S:=S.front 1 rfl
 replace S:St j d _ aq [.box i 33 [ah,ac],.row ac 5 1 aj.length]:=S
 refine B h fun df cj h=>W.callS (mapC cg mapN) (zAT hG aj S ci ch cj) ?_
 rintro dg dh ck di dj S ⟨rfl,rfl⟩
 replace S:St j d _ ck [.box i 33 [ah,ac]]:=S
 refine A<|We ?_
 exact WP.ret (Rs h S)
theorem zBs {i:World} {j:Hp} (hw:Holds i j) (hG:Tryz.Gl i) {r:Bool} (h:zBD=some r) :
  Cb Tryz.prog 9 [] i j r:=by
 refine CM 18 Tryz.func9 hw fun S=>?_
 refine Ws<|Wg<|A<|We<|Ws<|Wg ?_
 refine WL.w (R.build [(0,(str [112])),(1,(int 1000)),(2,(int 4)),(3,(int 4))] [(str [112]),(int 1000),(int 4),(int 4),(boo false),(boo false)] bp45 zer45 rfl rfl)<|B h fun f l h=>W.call S rfl (zBw S.holds (hG.post S.post) (⟨[112],1000,4,4,false,false⟩:GConfig) [116,105,99,107,32,53,10,10,104,101,108,108,111,10,102,97,105,108,10,107,101,121,115,10] l) ?_
 rintro u v k x S rfl
 refine M ?_
 refine Ex ?_
 refine Ex<|A<|A<|We<|Ws<|Wg<|M<|Le<|M ?_
 refine WL.grp 3 [11,12] 13 (boo ((f.2==0)&&(f.1==[110,111,119,32,53,10,101,114,114,111,114,32,49,10,101,114,114,111,114,32,49,50,10,107,101,121,115,10]))) ?_ ?_
 ·rcases boolE (f.2==0) with b | b
  ·refine Gy b<|M<|Gy b<|Na<|Pt b ?_
   exact We ⟨(andT b),ag,rfl⟩
  refine Gn b<|Gn b<|Pf b ?_
  exact We ⟨(andF b),ag,rfl⟩
 intro us
 refine M<|B h fun o d h=>WL.grpw 3 [15,16] 17 (boo o) (fun w=>∃ H':Hp,k.le H'∧St i j w H' []) ?_ ?_
 ·rcases boolE ((f.2==0)&&(f.1==[110,111,119,32,53,10,101,114,114,111,114,32,49,10,101,114,114,111,114,32,49,50,10,107,101,121,115,10])) with c | c
  ·replace d:=condT d c
   refine Gy c<|B d fun z p d=>W.call S rfl (zA3 S.holds (hG.post S.post) [97,13,10,128] p) ?_
   rintro aa ab q t S rfl
   refine Gy c<|Na<|Pt c ?_
   exact We ⟨(ob d),ag,⟨q,t,S⟩⟩
  replace d:=condF d c
  refine Gn c<|Gn c<|Pf c ?_
  exact We ⟨(ob d),ag,⟨k,lr,S⟩⟩
 intro us ac ⟨ad,ae,S⟩
 refine A<|We ?_
 exact WP.ret (Rb h S)
theorem zDg {o:World} {p:Hp} (hw:Holds o p) (hG:Tryz.Gl o) (k:Str) {r:Bool} (h:zDf k=some r) :
  Cb Tryz.prog 4 [(str k)] o p r:=by
 refine CM 42 Tryz.func4 hw fun S=>?_
 refine Ws<|Wg<|A<|We<|Ws<|Ws<|Wg<|M<|Ns<|Lc<|We ?_
 rcases condE h with ⟨z,h⟩ | ⟨z,h⟩
 ·refine CT z<|Ws<|Wg<|A<|We ?_
  exact WP.ret (Rb h S)
 refine CF z<|Wk<|Ws<|Wg<|M<|B h fun u ak h=>W.call S rfl (zA3 S.holds (hG.post S.post) k ak) ?_
 rintro v3 w4 H5 a2 S rfl
 refine A<|We<|Ws<|Ws<|Wg<|A<|We<|B h fun aa am h=>WP.cut (fun f w=>match aa with | .inl _=>∃ (ad:Hp),f 0=(str k)∧f 3=(str u)∧St o p w ad [] | .inr _=>False) ?_ ?_
 ·refine Wb ?_
  refine WP.loopM (zDe u) (fun s f w=>match s with | ae=>∃ (v:Hp),f 0=(str k)∧f 3=(str u)∧f 4=(int ae)∧St o p w v []) 0 aa am ?_ ?_
  ·exact ⟨H5,rfl,rfl,rfl,S⟩
  intro ae f w hI a3 b af
  obtain ⟨v,h8,q,x,S⟩:=hI
  refine Ws<|Ws<|Wg<|M' x<|M' q<|Ns<|La<|We ?_
  rcases condE b with ⟨ab,b⟩ | ⟨ab,b⟩
  ·refine CT ab<|Wk<|Ws<|Wb<|Ws<|Wg<|M' q<|M' x<|B b fun ai an b=>Ja an<|Ma ai 32<|M<|B b fun ao i b=>WL.grp 5 [23,24,25,26] 27 (boo ao) ?_ ?_
   ·rcases boolE (decide (ai<32)) with c | c
    ·replace i:=condT i c
     refine Gn c<|Gn c<|Gn c<|Gn c<|Pt c ?_
     exact We ⟨(ob i),ag,rfl⟩
    replace i:=condF i c
    refine Gy c<|M' q<|Gy c<|M' x<|Gy c<|B i fun ap aq i=>Ja aq<|Gy c<|Mc ap 126<|Pf c ?_
    exact We ⟨(ob i),ag,rfl⟩
   intro us
   refine We ?_
   rcases condE b with ⟨ac,b⟩ | ⟨ac,b⟩
   ·refine CT ac<|Ws<|Wg<|A<|We ?_
    obtain rfl:=oi b
    obtain rfl:=af
    exact WP.ret (Rb h S)
   refine CF ac<|Wk<|Wg<|M' x<|Lg<|A<|We ?_
   obtain rfl:=oi b
   exact ⟨rfl,⟨v,h8,q,rfl,S⟩⟩
  refine CF ab<|Wx ?_
  obtain rfl:=oi b
  obtain rfl:=af
  exact ⟨v,h8,q,S⟩
 intro f w hM
 rcases aa with _ | e
 ·obtain ⟨ad,ar,au,S⟩:=hM
  refine Ws<|Wg<|M' au<|B h fun t av h=>W.call S rfl (zAw S.holds (hG.post S.post) u av) ?_
  rintro a4 a5 aj a6 S rfl
  refine M ?_
  refine Ex ?_
  refine Ex<|A<|A<|We<|Ws<|Wg<|M<|M ?_
  refine WL.grp 4 [35,36,37] 38 (boo (t.2&&(t.1==k))) ?_ ?_
  ·rcases boolE t.2 with d | d
   ·refine Gy d<|M<|Gy d<|M' ar<|Gy d<|Na<|Pt d ?_
    exact We ⟨(andT d),ag,rfl⟩
   refine Gn d<|Gn d<|Gn d<|Pf d ?_
   exact We ⟨(andF d),ag,rfl⟩
  intro us
  refine M<|B h fun aw j h=>WL.grpw 2 [40] 41 (boo aw) (fun w=>∃ H':Hp,aj.le H'∧St o p w H' []) ?_ ?_
  ·rcases boolE (t.2&&(t.1==k)) with l | l
   ·replace j:=condT j l
    refine Gy l<|B j fun a7 ax j=>W.call S rfl (zBs S.holds (hG.post S.post)  ax) ?_
    rintro a8 a9 ay az S rfl
    refine Pt l ?_
    exact We ⟨(ob j),ag,⟨ay,az,S⟩⟩
   replace j:=condF j l
   refine Gn l<|Pf l ?_
   exact We ⟨(ob j),ag,⟨aj,lr,S⟩⟩
  intro us ba ⟨bb,bc,S⟩
  refine A<|We ?_
  exact WP.ret (Rb h S)
 exact hM.elim
end Go.Proofs
