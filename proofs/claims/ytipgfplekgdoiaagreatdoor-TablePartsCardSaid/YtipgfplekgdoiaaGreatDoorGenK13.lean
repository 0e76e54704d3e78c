/- A part. -/
import Derived.Test.YtipgfplekgdoiaaGreatDoorEng38
import Derived.Test.YtipgfplekgdoiaaGreatDoorEng36
import Derived.Test.YtipgfplekgdoiaaGreatDoorGenK12
namespace Go.Proofs
set_option maxHeartbeats 4000000
set_option maxRecDepth 10000
open Go.Eng Go.Eng.Pure
set_option linter.unusedVariables false
theorem zG6 {p:World} {q:Hp} (hw:Holds p q) (ai:Str) {r:(Str×(List GParam)×Bool)} (h:zCv ai=some r) :
  Con Tryz.prog 187 [(str ai)] p q (fun H' v=>∃ u1:Value,v=(.tuple ⟨[(str r.1),u1,(boo r.2.2)]⟩)∧Sl H' u1 r.2.1):=by
 refine CM 72 Tryz.func187 hw fun S=>?_
 refine Ws<|Wg<|A<|A<|A<|We<|Ws<|Wg<|M<|B h fun r1 a5 h=>W.call S rfl (zKL S.holds ai 59 a5) ?_
 rintro v2 w3 H4 cp S c
 refine A<|We<|Ws<|Wg<|M<|B h fun x7 a7 h=>W.idx (α:=Str) c rfl rfl el34 a7 ?_
 rintro a8 _ a9 rfl
 refine Lq S a9<|B h fun ak ba h=>W.call S rfl (zF7 S.holds x7 ba) ?_
 rintro cr cs bb bc S rfl
 have c:=c.up bc
 refine A<|We<|Ws<|Ws<|Wg<|M<|Na<|We ?_
 rcases condE h with ⟨al,h⟩ | ⟨al,h⟩
 ·refine CT al<|Ws<|Wg<|A<|A<|A<|We ?_
  obtain rfl:=oi h
  refine WP.ret (Out.three rfl S rfl rfl rfl ?_)
  exact ⟨_,rfl,Sl.nil⟩
 refine CF al<|Wk<|Ws<|Wg<|A<|We<|Ws<|Ws<|Wg<|A<|We ?_
 have S:=S.addNil 161 2
 refine B h fun am bd h=>WP.cut (fun f w=>match am with | .inl an=>∃ (ao:Hp) (ac:Value),f 6=(str ak)∧f 7=ac∧Sl ao ac an∧St p q w ao [.row ac 161 2 an.length] | .inr _=>False) ?_ ?_
 ·refine Wb ?_
  refine WP.loopM (zBK r1) (fun s f w=>match s with | (t,ap)=>∃ (x:Hp) (l:Value),f 5=v2∧f 6=(str ak)∧f 7=l∧f 8=(int ap)∧Sl x v2 r1∧Sl x l t∧St p q w x [.row l 161 2 t.length]) (([]:List GParam),1) am bd ?_ ?_
  ·exact ⟨bb,.slice none 0 0,rfl,rfl,rfl,rfl,c,Sl.nil,S⟩
  intro s f w hI ct b aq
  obtain ⟨t,ap⟩:=s
  obtain ⟨x,l,z,ad,ae,aa,c,d,S⟩:=hI
  refine Ws<|Ws<|Wg<|M' aa<|M' z<|Nq c<|La<|We ?_
  rcases condE b with ⟨ar,b⟩ | ⟨ar,b⟩
  ·refine CT ar<|Wk<|Ws<|Wb<|Ws<|Wg<|M' z<|M' aa<|B b fun be bf b=>W.idx (α:=Str) c rfl rfl el34 bf ?_
   rintro cu _ bg rfl
   refine Lq S bg<|B b fun az bh b=>W.call S rfl (zF7 S.holds be bh) ?_
   rintro cv cw bi bj S rfl
   have ⟨c,d⟩:=U2 bj c d
   refine A<|We<|Ws<|Ws<|Wg<|M<|Na<|We ?_
   rcases condE b with ⟨au,b⟩ | ⟨au,b⟩
   ·refine CT au<|Wx<|Wg<|M' aa<|Lg<|A<|We ?_
    obtain rfl:=oi b
    exact ⟨rfl,⟨bi,l,z,ad,ae,rfl,c,d,S⟩⟩
   refine CF au<|Wk<|Ws<|Wg<|M<|B b fun a0 bk b=>W.call S rfl (zFa S.holds az 61 0 bk) ?_
   rintro cx cy a1 bn S rfl
   have ⟨c,d⟩:=U2 bn c d
   refine A<|We<|Ws<|Ws<|Wg<|M<|La<|M<|B b fun bo o b=>WL.grpw 6 [40,41,42,43,44] 45 (boo bo) (fun w=>∃ H':Hp,a1.le H'∧St p q w H' [.row l 161 2 t.length]) ?_ ?_
   ·rcases boolE (decide (a0<0)) with j | j
    ·replace o:=condT o j
     refine Gn j<|Gn j<|Gn j<|Gn j<|Gn j<|Pt j ?_
     exact We ⟨(ob o),ag,⟨a1,lr,S⟩⟩
    replace o:=condF o j
    refine Gy j<|M<|Gy j<|M<|Gy j<|B o fun bp bq o=>Jd bq<|Gy j<|B o fun cz br o=>W.call S rfl (zCI S.holds bp br) ?_
    rintro c0 c1 bs a2 S rfl
    have ⟨c,d⟩:=U2 a2 c d
    refine Gy j<|No<|Pf j ?_
    exact We ⟨(ob o),ag,⟨bs,a2,S⟩⟩
   intro us c2 ⟨c3,bt,S⟩
   have ⟨c,d⟩:=U2 bt c d
   refine We ?_
   rcases condE b with ⟨av,b⟩ | ⟨av,b⟩
   ·refine CT av<|Ws<|Wg<|A<|A<|A<|We ?_
    obtain rfl:=oi b
    obtain rfl:=aq
    obtain rfl:=oi h
    refine WP.ret (Out.three rfl S rfl rfl rfl ?_)
    exact ⟨_,rfl,Sl.nil⟩
   refine CF av<|Wk<|Ws<|Wg<|M<|M<|Lg<|B b fun a3 bu b=>Jc bu<|A<|We<|Ws<|Ws<|Wg<|M<|B b fun c4 bv b=>W.call S rfl (zCI S.holds a3 bv) ?_
   rintro c5 c6 bw bx S rfl
   have ⟨c,d⟩:=U2 bx c d
   refine No<|We<|B b fun a4 k b=>WP.cut (fun f w=>match a4 with | .inl u=>∃ (af:Hp),f 5=v2∧f 6=(str ak)∧f 7=l∧f 8=(int ap)∧f 9=(str az)∧f 10=(int a0)∧f 11=(str u)∧Sl af v2 r1∧Sl af l t∧St p q w af [.row l 161 2 t.length] | .inr _=>False) ?_ ?_
   ·rcases condE k with ⟨aw,k⟩ | ⟨aw,k⟩
    ·refine CT aw<|Ws<|Wg<|M<|B k fun c7 bz k=>W.call S rfl (zIU S.holds a3 bz) ?_
     rintro c8 c9 b0 b1 S rfl
     have ⟨c,d⟩:=U2 b1 c d
     refine M ?_
     refine Ex ?_
     refine Ex<|A<|A<|We<|Ws<|Ws<|Wg<|M<|No<|We ?_
     rcases condE k with ⟨ax,k⟩ | ⟨ax,k⟩
     ·refine CT ax<|Ws<|Wg<|A<|A<|A<|We ?_
      obtain rfl:=oi k
      obtain rfl:=oi b
      obtain rfl:=aq
      obtain rfl:=oi h
      refine WP.ret (Out.three rfl S rfl rfl rfl ?_)
      exact ⟨_,rfl,Sl.nil⟩
     refine CF ax<|Wk<|Wg<|M<|A<|We ?_
     obtain rfl:=oi k
     exact ⟨b0,z,ad,ae,aa,rfl,rfl,rfl,c,d,S⟩
    refine CF aw<|Wk ?_
    obtain rfl:=oi k
    exact ⟨bw,z,ad,ae,aa,rfl,rfl,rfl,c,d,S⟩
   intro f w hM
   rcases a4 with u | e
   ·obtain ⟨af,b2,b3,b4,b5,b6,b7,b8,c,d,S⟩:=hM
    refine Wg<|M' b4<|M' b6<|M' b7<|B b fun b9 ca b=>Jd ca<|B b fun ah cb b=>W.call S rfl (zBm S.holds b9 cb) ?_
    rintro da db dc cc S rfl
    have ⟨c,d⟩:=U2 cc c d
    refine M' b8 ?_
    refine WL.w (R.build [(0,(str ah)),(1,(str u))] [(str ah),(str u)] bp161 zJb rfl rfl)<|W.bslice (α:=GParam) [(agg [(str ah),(str u)])] ([(⟨ah,u⟩:GParam)]:List GParam) S el156 rfl rfl rfl (by decide) (Go.Eng.encS ⟨rfl,rfl⟩ enc0) ?_
    intro dd de df cd ce S
    have ⟨c,d⟩:=U2 cd c d
    refine B b fun dh cf b=>W.app (α:=GParam) (i:=1) S el156 rfl rfl rfl d ce cf ?_
    intro cg di ch ci cj S
    have ⟨c,d⟩:=U2 ci c d
    refine A<|We<|Wg<|M' b5<|Lg<|A<|We ?_
    obtain rfl:=oi b
    exact ⟨rfl,⟨ch,cg,b2,b3,rfl,rfl,c,cj,(S.pk [1])⟩⟩
   exact hM.elim
  refine CF ar<|Wx ?_
  obtain rfl:=oi b
  obtain rfl:=aq
  exact ⟨x,l,ad,ae,d,S⟩
 intro f w hM
 rcases am with an | e
 ·obtain ⟨ao,ac,ck,cl,cm,S⟩:=hM
  refine Ws<|Wg<|M' ck<|M' cl<|A<|A<|A<|We ?_
  obtain rfl:=oi h
  refine WP.ret (Out.three rfl S rfl rfl rfl ?_)
  exact ⟨_,rfl,cm⟩
 exact hM.elim
theorem zHJ {z:World} {H0:Hp} (hw:Holds z H0) (ab:Str) {r:(GMediaType×Bool)} (h:zDC ab=some r) :
  Con Tryz.prog 189 [(str ab)] z H0 (fun H' v=>∃ u1:Value,v=(.tuple ⟨[(agg [(str r.1.fType),(str r.1.fSub),u1]),(boo r.2)]⟩)∧Sl H' u1 r.1.fParams):=by
 refine CM 61 Tryz.func189 hw fun S=>?_
 refine Ws<|Wg ?_
 refine W.alloc [(str []),(str []),(.slice none 0 0)] S zDq ?_
 intro b1 w2 S
 refine A<|We<|Ws<|Wg<|M<|B h fun r3 ao h=>W.call S rfl (zG6 S.holds ab ao) ?_
 rintro v4 w5 H6 bk S ⟨x,rfl,d⟩
 refine M ?_
 refine Ex ?_
 refine Ex ?_
 refine Ex<|A<|A<|A<|We<|Ws<|Ws<|Wg<|M ?_
 refine No<|We ?_
 rcases condE h with ⟨ac,h⟩ | ⟨ac,h⟩
 ·refine CT ac<|Ws<|Wg ?_
  refine WL.w (R.build [] [(str []),(str []),(.slice none 0 0)] bp158 zDq rfl rfl) ?_
  refine W.store (i:=0) [(str []),(str []),(.slice none 0 0)] S rfl rfl rfl zBJ rfl (AllOne.all (l:=[(str []),(str []),(.slice none 0 0)]) (.cons rfl (.cons rfl (.cons rfl .nil)))) (Nat.le_of_ble_eq_true rfl) rfl ?_
  intro bn S
  refine A<|We ?_
  obtain rfl:=oi h
  refine WP.ret (Out.two rfl S (Res.cellB (i:=0) (cs:=[(str []),(str []),(.slice none 0 0)]) S rfl rfl zBJ rfl rfl) rfl ?_)
  exact ⟨_,rfl,Sl.nil⟩
 refine CF ac<|Wk<|Ws<|Wg<|M<|B h fun ap aq h=>W.call S rfl (zFa S.holds r3.1 47 0 aq) ?_
 rintro bo bp ah ar S rfl
 have d:=d.up ar
 refine A<|We<|Ws<|Ws<|Wg<|M<|La<|M<|B h fun ai k h=>WL.grpw 6 [22,23,24,25,26] 27 (boo ai) (fun w=>∃ H':Hp,ah.le H'∧St z H0 w H' [.box b1 158 [(str []),(str []),(.slice none 0 0)]]) ?_ ?_
 ·rcases boolE (decide (ap<0)) with f | f
  ·replace k:=condT k f
   refine Gn f<|Gn f<|Gn f<|Gn f<|Gn f<|Pt f ?_
   exact We ⟨(ob k),ag,⟨ah,lr,S⟩⟩
  replace k:=condF k f
  refine Gy f<|M<|Gy f<|M<|Gy f<|B k fun au av k=>Jd av<|Gy f<|B k fun bq aw k=>W.call S rfl (zCI S.holds au aw) ?_
  rintro br bs ax aj S rfl
  have d:=d.up aj
  refine Gy f<|No<|Pf f ?_
  exact We ⟨(ob k),ag,⟨ax,aj,S⟩⟩
 intro us bt ⟨ak,ay,S⟩
 have d:=d.up ay
 refine M<|B h fun al o h=>WL.grpw 7 [29,30,31,32,33,34] 35 (boo al) (fun w=>∃ H':Hp,ak.le H'∧St z H0 w H' [.box b1 158 [(str []),(str []),(.slice none 0 0)]]) ?_ ?_
 ·rcases boolE ai with c | c
  ·replace o:=condT o c
   refine Gn c<|Gn c<|Gn c<|Gn c<|Gn c<|Gn c<|Pt c ?_
   exact We ⟨(ob o),ag,⟨ak,lr,S⟩⟩
  replace o:=condF o c
  refine Gy c<|M<|Gy c<|M<|Gy c<|Lg<|Gy c<|B o fun az a0 o=>Jc a0<|Gy c<|B o fun bu a1 o=>W.call S rfl (zCI S.holds az a1) ?_
  rintro bv bw a2 am S rfl
  have d:=d.up am
  refine Gy c<|No<|Pf c ?_
  exact We ⟨(ob o),ag,⟨a2,am,S⟩⟩
 intro us bx ⟨bz,a3,S⟩
 have d:=d.up a3
 refine M<|B h fun a4 p h=>WL.grp 12 [37,38,39,40,41,42,43,44,45,46,47] 48 (boo a4) ?_ ?_
 ·rcases boolE al with b | b
  ·replace p:=condT p b
   refine Gn b<|Gn b<|Gn b<|Gn b<|Gn b<|WL.gund rfl rfl<|WL.gund rfl rfl<|WL.gund rfl rfl<|WL.gund rfl rfl<|WL.gund rfl rfl<|Gn b<|Pt b ?_
   exact We ⟨(ob p),ag,rfl⟩
  replace p:=condF p b
  refine Gy b<|M<|Gy b<|M<|Gy b<|B p fun a5 a6 p=>Jd a6<|Gy b<|Na<|Gy b<|M<|B p fun a7 q p=>WL.grp 6 [42,43,44,45,46] 47 (boo a7) ?_ ?_
  ·rcases boolE (a5==[42]) with j | j
   ·replace q:=condT q j
    refine Gy j<|M<|Gy j<|M<|Gy j<|Lg<|Gy j<|B q fun b0 a8 q=>Jc a8<|Gy j<|Nb<|Gy b<|Pt j ?_
    exact We ⟨(ob q),ag,rfl⟩
   replace q:=condF q j
   refine Gn j<|Gn j<|Gn j<|Gn j<|Gn j<|Gy b<|Pf j ?_
   exact We ⟨(ob q),ag,rfl⟩
  intro us
  refine Pf b ?_
  exact We ⟨(ob p),ag,rfl⟩
 intro us
 refine We ?_
 rcases condE h with ⟨ad,h⟩ | ⟨ad,h⟩
 ·refine CT ad<|Ws<|Wg ?_
  refine WL.w (R.build [] [(str []),(str []),(.slice none 0 0)] bp158 zDq rfl rfl) ?_
  refine W.store (i:=0) [(str []),(str []),(.slice none 0 0)] S rfl rfl rfl zBJ rfl (AllOne.all (l:=[(str []),(str []),(.slice none 0 0)]) (.cons rfl (.cons rfl (.cons rfl .nil)))) (Nat.le_of_ble_eq_true rfl) rfl ?_
  intro b2 S
  refine A<|We ?_
  obtain rfl:=oi h
  refine WP.ret (Out.two rfl S (Res.cellB (i:=0) (cs:=[(str []),(str []),(.slice none 0 0)]) S rfl rfl zBJ rfl rfl) rfl ?_)
  exact ⟨_,rfl,Sl.nil⟩
 refine CF ad<|Wk<|Ws<|WP.quietTail 11 S kr kr<|QM<|QM<|B h fun a9 ba h=>QJd ba<|B h fun t bb h=>WQ.call (v:=str t) rfl (fun w H' hq S=>zBm S.holds a9 bb)<|QM<|QM<|QLg<|B h fun bc bd h=>QJc bd<|B h fun u be h=>WQ.call (v:=str u) rfl (fun w H' hq S=>zBm S.holds bc be)<|QM ?_
 refine WQ.val (fun _ _=>(R.build [(0,(str t)),(1,(str u)),(2,x)] [(str t),(str u),x] bp158 zDq rfl (by obtain ⟨_,_,rfl,_⟩:=d; rfl)))<|WQ.nil ?_
 intro b3 b4 bf S
 have d:=d.up bf
 refine W.store (i:=0) [(str t),(str u),x] S rfl rfl rfl zBJ rfl (AllOne.all (l:=[(str t),(str u),x]) (.cons rfl (.cons rfl (.cons (Sl.oneC d) .nil)))) (Nat.le_of_ble_eq_true rfl) rfl ?_
 intro b5 S
 refine A<|We ?_
 obtain rfl:=oi h
 refine WP.ret (Out.two rfl S (Res.cellB (i:=0) (cs:=[(str t),(str u),x]) S rfl rfl zBJ rfl rfl) rfl ?_)
 exact ⟨_,rfl,d⟩
theorem zHc {p:World} {q:Hp} (hw:Holds p q) (j:Str) {r:(GMediaType×Bool)} (h:zDf j=some r) :
  Con Tryz.prog 149 [(str j)] p q (fun H' v=>∃ t:Value,v=(.tuple ⟨[(agg [(str r.1.fType),(str r.1.fSub),t]),(boo r.2)]⟩)∧Sl H' t r.1.fParams):=by
 refine CM 25 Tryz.func149 hw fun S=>?_
 refine Ws<|Wg ?_
 refine W.alloc [(str []),(str []),(.slice none 0 0)] S zDq ?_
 intro x z S
 refine A<|We<|Ws<|Wg<|M<|B h fun b u h=>W.call S rfl (zHJ S.holds j u) ?_
 rintro v4 w5 H6 ad S ⟨f,rfl,k⟩
 refine M ?_
 refine Ex ?_
 refine Ex ?_
 refine W.alloc [(str []),(str []),(.slice none 0 0)] S zDq ?_
 intro ae af S
 refine W.store (i:=0) [(str b.1.fType),(str b.1.fSub),f] S rfl rfl rfl zBJ rfl (AllOne.all (l:=[(str b.1.fType),(str b.1.fSub),f]) (.cons rfl (.cons rfl (.cons (Sl.oneC k) .nil)))) (Nat.le_of_ble_eq_true rfl) rfl ?_
 intro ah S
 refine A<|We<|Ws<|Ws<|Wg<|M<|No<|M ?_
 refine WL.grp 4 [14,15,16] 17 (boo ((!b.2)||(b.1.fType==[42]))) ?_ ?_
 ·rcases boolE (!b.2) with c | c
  ·refine Gn c<|Gn c<|Gn c<|Pt c ?_
   exact We ⟨(orT c),ag,rfl⟩
  refine Gy c<|Fb<|Gy c ?_
  refine Lo 0 S<|Gy c<|Na<|Pf c ?_
  exact We ⟨(orF c),ag,rfl⟩
 intro us
 refine M ?_
 refine WL.grp 4 [19,20,21] 22 (boo (((!b.2)||(b.1.fType==[42]))||(b.1.fSub==[42]))) ?_ ?_
 ·rcases boolE ((!b.2)||(b.1.fType==[42])) with d | d
  ·refine Gn d<|Gn d<|Gn d<|Pt d ?_
   exact We ⟨(orT d),ag,rfl⟩
  refine Gy d<|Fb<|Gy d ?_
  refine Lo 0 S<|Gy d<|Na<|Pf d ?_
  exact We ⟨(orF d),ag,rfl⟩
 intro us
 refine We ?_
 rcases condE h with ⟨o,h⟩ | ⟨o,h⟩
 ·refine CT o<|Ws<|Wg ?_
  refine WL.w (R.build [] [(str []),(str []),(.slice none 0 0)] bp158 zDq rfl rfl) ?_
  refine W.store (i:=1) [(str []),(str []),(.slice none 0 0)] S rfl rfl rfl zBJ rfl (AllOne.all (l:=[(str []),(str []),(.slice none 0 0)]) (.cons rfl (.cons rfl (.cons rfl .nil)))) (Nat.le_of_ble_eq_true rfl) rfl ?_
  intro ai S
  refine A<|We ?_
  obtain rfl:=oi h
  refine WP.ret (Out.two rfl S (Res.cellB (i:=1) (cs:=[(str []),(str []),(.slice none 0 0)]) S rfl rfl zBJ rfl rfl) rfl ?_)
  exact ⟨_,rfl,Sl.nil⟩
 refine CF o<|Wk<|Ws<|Wg ?_
 refine WL.w (R.loadBN (i:=0) (vs:=[(str b.1.fType),(str b.1.fSub),f]) S rfl rfl zBJ rfl rfl) ?_
 refine W.store (i:=1) [(str b.1.fType),(str b.1.fSub),f] S rfl rfl rfl zBJ rfl (AllOne.all (l:=[(str b.1.fType),(str b.1.fSub),f]) (.cons rfl (.cons rfl (.cons (Sl.oneC k) .nil)))) (Nat.le_of_ble_eq_true rfl) rfl ?_
 intro aj S
 refine A<|We ?_
 obtain rfl:=oi h
 refine WP.ret (Out.two rfl S (Res.cellB (i:=1) (cs:=[(str b.1.fType),(str b.1.fSub),f]) S rfl rfl zBJ rfl rfl) rfl ?_)
 exact ⟨_,rfl,k⟩
theorem zIa {o:World} {k:Hp} (hw:Holds o k) (p:Str) {r:(List Str)} (h:zEr p=some r) :
  Con Tryz.prog 193 [(str p)] o k (fun H' v=>Sl H' v r):=by
 refine CM 23 Tryz.func193 hw fun S=>?_
 refine Ws<|Wg<|A<|We<|Ws<|Wg<|A<|We ?_
 have S:=S.addNil 9 1
 refine B h fun ac ad h=>WP.cut (fun _ _=>False) ?_ (fun _ _ h=>h.elim)
 refine Wb ?_
 refine WP.loopM (zBG) (fun s f w=>match s with | (d,q)=>∃ (t:Hp) (j:Value),f 0=(str d)∧f 3=j∧Sl t j q∧St o k w t [.row j 9 1 q.length]) (p,([]:List Str)) ac ad ?_ ?_
 ·exact ⟨k,.slice none 0 0,rfl,rfl,Sl.nil,S⟩
 intro s f w hI y8 b ae
 obtain ⟨d,q⟩:=s
 obtain ⟨t,j,l,x,c,S⟩:=hI
 refine Wb<|Ws<|Wg<|M' l<|B b fun z af b=>W.call S rfl (zFa S.holds d 45 0 af) ?_
 rintro ay az a0 ah S rfl
 have c:=c.up ah
 refine A<|We<|Ws<|Ws<|Wg<|M<|La<|We ?_
 rcases condE b with ⟨u,b⟩ | ⟨u,b⟩
 ·refine CT u<|Ws<|Wg<|M' x<|M' l<|W.bslice (α:=Str) [(str d)] ([d]:List Str) S el34 rfl rfl rfl (by decide) (Go.Eng.encS ⟨rfl,rfl⟩ enc0) ?_
  intro a1 a2 a3 ai aj S
  have c:=c.up ai
  refine B b fun a4 ak b=>W.app (α:=Str) (i:=1) S el34 rfl rfl rfl c aj ak ?_
  intro a5 a6 a7 al am S
  have c:=c.up al
  refine A<|We ?_
  obtain rfl:=oi b
  obtain rfl:=ae
  exact WP.ret (Rl h S am)
 refine CF u<|Wk<|WP.draw kr 12 rfl (bm 12 0) rfl ?_
 have S:=S.drew
 refine At_ 0 12 1 rfl (fun _=>(R.mv (v:=j) x)) ?_
 refine At_ 1 12 3 rfl (fun _=>(R.mv (v:=str d) l)) ?_
 refine At_ 2 12 7 rfl (fun _=>(R.mv (v:=int z) rfl))<|B b fun aa an b=>?_
 refine At_ 3 12 15 rfl (fun _=>(R.subShi rfl rfl Tryz.underlying9 an)) ?_
 refine At_ 6 12 79 rfl (fun _=>(R.mv (v:=str d) l)) ?_
 refine At_ 7 12 207 rfl (fun _=>(R.mv (v:=int z) rfl)) ?_
 refine At_ 8 12 463 rfl (fun _=>(R.add rfl rfl))<|B b fun ao ap b=>?_
 refine At_ 9 12 975 rfl (fun _=>(R.subSlo rfl rfl Tryz.underlying9 ap))<|WA.one (i:=4) (bm 12 991) rfl kr rfl<|W.bslice (α:=Str) [(str aa)] ([aa]:List Str) S el34 rfl rfl rfl (by decide) (Go.Eng.encS ⟨rfl,rfl⟩ enc0) ?_
 intro a8 a9 ba aq ar S
 have c:=c.up aq
 refine We<|WA.one (i:=5) (bm 12 1023) rfl kr rfl<|B b fun bb au b=>W.app (α:=Str) (i:=1) S el34 rfl rfl rfl c ar au ?_
 intro ab bc av bd aw S
 refine We ?_
 refine At_ 10 12 2047 rfl (fun _=>(R.as (v:=ab) rfl)) ?_
 refine At_ 11 12 4095 rfl (fun _=>(R.as (v:=str ao) rfl))<|WA.done kr ?_
 obtain rfl:=oi b
 exact ⟨rfl,⟨av,ab,rfl,rfl,aw,(S.pk [1])⟩⟩
theorem zJO {d:World} {f:Hp} (hw:Holds d f) (c:UInt8) {r:Bool} (h:zHS c=some r) :
  Cb Tryz.prog 194 [(byt c)] d f r:=by
 refine CM 9 Tryz.func194 hw fun S=>?_
 refine Ws<|Wg<|A<|We<|Ws<|Wg<|M<|Md c 48<|M ?_
 refine WL.grp 3 [6,7] 8 (boo ((decide (48≤c))&&(decide (c≤57)))) ?_ ?_
 ·rcases boolE (decide (48≤c)) with b | b
  ·refine Gy b<|M<|Gy b<|Mb c 57<|Pt b ?_
   exact We ⟨(andT b),ag,rfl⟩
  refine Gn b<|Gn b<|Pf b ?_
  exact We ⟨(andF b),ag,rfl⟩
 intro us
 refine A<|We ?_
 exact WP.ret (Rb h S)
theorem zKv {t:World} {u:Hp} (hw:Holds t u) (al:Str) {r:Bool} (h:zHk al=some r) :
  Cb Tryz.prog 150 [(str al)] t u r:=by
 refine CM 67 Tryz.func150 hw fun S=>?_
 refine Ws<|Wg<|A<|We<|Ws<|Wg<|M<|B h fun r1 a1 h=>W.call S rfl (zIa S.holds al a1) ?_
 rintro v2 w3 H4 bs S c
 refine A<|We<|Ws<|Ws<|Wg<|A<|We<|B h fun am a3 h=>WP.cut (fun f w=>match am with | .inl _=>∃ (aw:Hp),St t u w aw [] | .inr _=>False) ?_ ?_
 ·refine Wb ?_
  refine WP.loopM (zET r1) (fun s f w=>match s with | ac=>∃ (H7:Hp),f 3=v2∧f 4=(int ac)∧Sl H7 v2 r1∧St t u w H7 []) 0 am a3 ?_ ?_
  ·exact ⟨H4,rfl,rfl,c,S⟩
  intro ac f w hI bt j an
  obtain ⟨H7,h8,ai,c,S⟩:=hI
  refine Ws<|Ws<|Wg<|M' ai<|M' h8<|Nq c<|La<|We ?_
  rcases condE j with ⟨ao,j⟩ | ⟨ao,j⟩
  ·refine CT ao<|Wk<|Ws<|Wb<|Ws<|Ws<|Wg<|M' h8<|M' ai<|B j fun a4 a5 j=>W.idx (α:=Str) c rfl rfl el34 a5 ?_
   rintro bu _ a6 rfl
   refine Lq S a6<|Ns<|La<|M<|B j fun a7 v j=>WL.grp 7 [22,23,24,25,26,27] 28 (boo a7) ?_ ?_
   ·rcases boolE (decide ((a4.length:Int)<1)) with d | d
    ·replace v:=condT v d
     refine Gn d<|Gn d<|Gn d<|Gn d<|Gn d<|Gn d<|Pt d ?_
     exact We ⟨(ob v),ag,rfl⟩
    replace v:=condF v d
    refine Gy d<|M' h8<|Gy d<|M' ai<|Gy d<|B v fun bv a8 v=>W.idx (α:=Str) c rfl rfl el34 a8 ?_
    rintro bw _ a9 rfl
    refine Gy d ?_
    refine Lq S a9<|Gy d<|Ns<|Gy d<|Lc<|Pf d ?_
    exact We ⟨(ob v),ag,rfl⟩
   intro us
   refine We ?_
   rcases condE j with ⟨ap,j⟩ | ⟨ap,j⟩
   ·refine CT ap<|Ws<|Wg<|A<|We ?_
    obtain rfl:=oi j
    obtain rfl:=an
    exact WP.ret (Rb h S)
   refine CF ap<|Wk<|Ws<|Wg<|A<|We<|B j fun aq ba j=>WP.cut (fun f w=>match aq with | .inl _=>∃ (aj:Hp),f 3=v2∧f 4=(int ac)∧Sl aj v2 r1∧St t u w aj [] | .inr _=>False) ?_ ?_
   ·refine Wb ?_
    refine WP.loopM (zEV r1 ac) (fun s f w=>match s with | ax=>∃ (x:Hp),f 3=v2∧f 4=(int ac)∧f 5=(int ax)∧Sl x v2 r1∧St t u w x []) 0 aq ba ?_ ?_
    ·exact ⟨H7,h8,ai,rfl,c,S⟩
    intro ax f w hI bx i ay
    obtain ⟨x,ak,af,ar,c,S⟩:=hI
    refine Ws<|Ws<|Wg<|M' ar<|M' ak<|M' af<|B i fun bz bb i=>W.idx (α:=Str) c rfl rfl el34 bb ?_
    rintro b0 _ bc rfl
    refine Lq S bc<|Ns<|La<|We ?_
    rcases condE i with ⟨au,i⟩ | ⟨au,i⟩
    ·refine CT au<|Wk<|Ws<|Wb<|Ws<|Wg<|M' ak<|M' af<|B i fun b1 bd i=>W.idx (α:=Str) c rfl rfl el34 bd ?_
     rintro b2 _ be rfl
     refine Lq S be<|M' ar<|B i fun b bf i=>Ja bf<|A<|We<|Ws<|Wg<|M<|Md b 97<|M ?_
     refine WL.grp 3 [47,48] 49 (boo ((decide (97≤b))&&(decide (b≤122)))) ?_ ?_
     ·rcases boolE (decide (97≤b)) with o | o
      ·refine Gy o<|M<|Gy o<|Mb b 122<|Pt o ?_
       exact We ⟨(andT o),ag,rfl⟩
      refine Gn o<|Gn o<|Pf o ?_
      exact We ⟨(andF o),ag,rfl⟩
     intro us
     refine M ?_
     refine WL.grp 7 [51,52,53,54,55,56] 57 (boo (((decide (97≤b))&&(decide (b≤122)))||((decide (65≤b))&&(decide (b≤90))))) ?_ ?_
     ·rcases boolE ((decide (97≤b))&&(decide (b≤122))) with k | k
      ·refine Gn k<|Gn k<|Gn k<|WL.gund rfl rfl<|WL.gund rfl rfl<|Gn k<|Pt k ?_
       exact We ⟨(orT k),ag,rfl⟩
      refine Gy k<|M<|Gy k<|Md b 65<|Gy k<|M ?_
      refine WL.grp 3 [54,55] 56 (boo ((decide (65≤b))&&(decide (b≤90)))) ?_ ?_
      ·rcases boolE (decide (65≤b)) with p | p
       ·refine Gy p<|M<|Gy p<|Mb b 90<|Gy k<|Pt p ?_
        exact We ⟨(andT p),ag,rfl⟩
       refine Gn p<|Gn p<|Gy k<|Pf p ?_
       exact We ⟨(andF p),ag,rfl⟩
      intro us
      refine Pf k ?_
      exact We ⟨(orF k),ag,rfl⟩
     intro us
     refine M<|B i fun bg z i=>WL.grpw 7 [59,60,61,62,63,64] 65 (boo bg) (fun w=>∃ H':Hp,x.le H'∧St t u w H' []) ?_ ?_
     ·rcases boolE (((decide (97≤b))&&(decide (b≤122)))||((decide (65≤b))&&(decide (b≤90)))) with l | l
      ·replace z:=condT z l
       refine Gn l<|Gn l<|Gn l<|WL.gund rfl rfl<|WL.gund rfl rfl<|Gn l<|Pt l ?_
       exact We ⟨(ob z),ag,⟨x,lr,S⟩⟩
      replace z:=condF z l
      refine Gy l<|M' af<|Gy l<|Lc<|Gy l<|M<|B z fun bh aa z=>WL.grpw 3 [62,63] 64 (boo bh) (fun w=>∃ H':Hp,x.le H'∧St t u w H' []) ?_ ?_
      ·rcases boolE (decide (0<ac)) with q | q
       ·replace aa:=condT aa q
        refine Gy q<|M<|Gy q<|B aa fun b3 bi aa=>W.call S rfl (zJO S.holds b bi) ?_
        rintro b4 b5 bj az S rfl
        have c:=c.up az
        refine Gy l<|Pt q ?_
        exact We ⟨(ob aa),ag,⟨bj,az,S⟩⟩
       replace aa:=condF aa q
       refine Gn q<|Gn q<|Gy l<|Pf q ?_
       exact We ⟨(ob aa),ag,⟨x,lr,S⟩⟩
      intro us b6 ⟨bk,a0,S⟩
      have c:=c.up a0
      refine Pf l ?_
      exact We ⟨(ob z),ag,⟨bk,a0,S⟩⟩
     intro us b7 ⟨bn,bo,S⟩
     have c:=c.up bo
     refine No<|We ?_
     rcases condE i with ⟨av,i⟩ | ⟨av,i⟩
     ·refine CT av<|Ws<|Wg<|A<|We ?_
      obtain rfl:=oi i
      obtain rfl:=ay
      obtain rfl:=oi j
      obtain rfl:=an
      exact WP.ret (Rb h S)
     refine CF av<|Wk<|Wg<|M' ar<|Lg<|A<|We ?_
     obtain rfl:=oi i
     exact ⟨rfl,⟨bn,ak,af,rfl,c,S⟩⟩
    refine CF au<|Wx ?_
    obtain rfl:=oi i
    obtain rfl:=ay
    exact ⟨x,ak,af,c,S⟩
   intro f w hM
   rcases aq with _ | e
   ·obtain ⟨aj,bp,bq,c,S⟩:=hM
    refine Wg<|M' bq<|Lg<|A<|We ?_
    obtain rfl:=oi j
    exact ⟨rfl,⟨aj,bp,rfl,c,S⟩⟩
   exact hM.elim
  refine CF ao<|Wx ?_
  obtain rfl:=oi j
  obtain rfl:=an
  exact ⟨H7,S⟩
 intro f w hM
 rcases am with _ | e
 ·obtain ⟨aw,S⟩:=hM
  refine Ws<|Wg<|A<|We ?_
  exact WP.ret (Rb h S)
 exact hM.elim
theorem zJh {d:World} {c:Hp} (hw:Holds d c) (i:Str) {r:Bool} (h:zG4 i=some r) :
  Cb Tryz.prog 151 [(str i)] d c r:=by
 refine CM 15 Tryz.func151 hw fun S=>?_
 refine Ws<|Wg<|A<|We<|Ws<|Ws<|Wg<|A<|We<|B h fun j x h=>WP.cut (fun f w=>match j with | .inl _=>∃ (t:Hp),St d c w t [] | .inr _=>False) ?_ ?_
 ·refine Wb ?_
  refine WP.loopM (zDg i) (fun s f w=>match s with | u=>∃ (k:Hp),f 0=(str i)∧f 3=(int u)∧St d c w k []) 0 j x ?_ ?_
  ·exact ⟨c,rfl,rfl,S⟩
  intro u f w hI y6 b v
  obtain ⟨k,l,o,S⟩:=hI
  refine Ws<|Ws<|Wg<|M' o<|M' l<|Ns<|La<|We ?_
  rcases condE b with ⟨p,b⟩ | ⟨p,b⟩
  ·refine CT p<|Wk<|Ws<|Wb<|Ws<|Wg<|M' l<|M' o<|B b fun z aa b=>Ja aa<|B b fun ae ab b=>W.call S rfl (zFo S.holds z ab) ?_
   rintro af ah ac ai S rfl
   refine No<|We ?_
   rcases condE b with ⟨q,b⟩ | ⟨q,b⟩
   ·refine CT q<|Ws<|Wg<|A<|We ?_
    obtain rfl:=oi b
    obtain rfl:=v
    exact WP.ret (Rb h S)
   refine CF q<|Wk<|Wg<|M' o<|Lg<|A<|We ?_
   obtain rfl:=oi b
   exact ⟨rfl,⟨ac,l,rfl,S⟩⟩
  refine CF p<|Wx ?_
  obtain rfl:=oi b
  obtain rfl:=v
  exact ⟨k,S⟩
 intro f w hM
 rcases j with _ | e
 ·obtain ⟨t,S⟩:=hM
  refine Ws<|Wg<|A<|We ?_
  exact WP.ret (Rb h S)
 exact hM.elim
theorem zJQ {t:World} {u:Hp} (hw:Holds t u) (ar:Str) (k:Str) {r:Bool} (h:zGO ar k=some r) :
  Cb Tryz.prog 124 [(str ar),(str k)] t u r:=by
 refine CM 88 Tryz.func124 hw fun S=>?_
 refine Ws<|Wg<|A<|We<|Ws<|Ws<|Wg<|M<|B h fun r1 bn h=>W.call S rfl (zHm S.holds ar bn) ?_
 rintro v2 w3 H4 cp S rfl
 refine We<|B h fun j9 c h=>WP.cut (fun f w=>match j9 with | .inl _=>∃ (H6:Hp),f 1=(str k)∧St t u w H6 [] | .inr _=>False) ?_ ?_
 ·refine Wb<|Ws<|Wg<|Le<|A<|We ?_
  rcases condE c with ⟨au,c⟩ | ⟨au,c⟩
  ·refine CT au<|Ws<|Wg<|M<|B c fun j bo c=>W.call S rfl (zHc S.holds k bo) ?_
   rintro cq cr bp cs S ⟨v,rfl,o⟩
   refine M ?_
   refine Ex ?_
   refine Ex ?_
   refine W.alloc [(str []),(str []),(.slice none 0 0)] S zDq ?_
   intro ah ct S
   refine W.store (i:=0) [(str j.1.fType),(str j.1.fSub),v] S rfl rfl rfl zBJ rfl (AllOne.all (l:=[(str j.1.fType),(str j.1.fSub),v]) (.cons rfl (.cons rfl (.cons (Sl.oneC o) .nil)))) (Nat.le_of_ble_eq_true rfl) rfl ?_
   intro cu S
   refine A<|We<|Ws<|Ws<|Wg<|A<|We<|B c fun a8 bq c=>WP.cut (fun f w=>∃ (a9:Hp),f 6=(boo a8)∧St t u w a9 []) ?_ ?_
   ·refine Wb ?_
    refine WP.loopM (zCM j) (fun s f w=>match s with | (av,ai)=>∃ (aj:Hp),f 5=(ptr ah 0)∧f 6=(boo av)∧f 7=(int ai)∧Sl aj v j.1.fParams∧St t u w aj [.box ah 158 [(str j.1.fType),(str j.1.fSub),v]]) (j.2,0) a8 bq ?_ ?_
    ·exact ⟨bp,rfl,rfl,rfl,o,S⟩
    intro s f w hI cv z br
    obtain ⟨av,ai⟩:=s
    obtain ⟨aj,ba,bb,bc,o,S⟩:=hI
    refine Ws<|Ws<|Wg<|M' bc<|Fb' ba ?_
    refine Lo 0 S<|Nq o<|La<|We ?_
    rcases condE z with ⟨aw,z⟩ | ⟨aw,z⟩
    ·refine CT aw<|Wk<|Ws<|Wb<|Ws<|Ws<|Wg<|A<|We<|B z fun ax bs z=>WP.cut (fun f w=>∃ (an:Hp),f 5=(ptr ah 0)∧f 6=(boo ax)∧f 7=(int ai)∧Sl an v j.1.fParams∧St t u w an [.box ah 158 [(str j.1.fType),(str j.1.fSub),v]]) ?_ ?_
     ·refine Wb ?_
      refine WP.loopM (zBp j ai) (fun s f w=>match s with | (ay,bd)=>∃ (ao:Hp),f 5=(ptr ah 0)∧f 6=(boo ay)∧f 7=(int ai)∧f 8=(int bd)∧Sl ao v j.1.fParams∧St t u w ao [.box ah 158 [(str j.1.fType),(str j.1.fSub),v]]) (av,0) ax bs ?_ ?_
      ·exact ⟨aj,ba,bb,bc,rfl,o,S⟩
      intro s f w hI cw af bt
      obtain ⟨ay,bd⟩:=s
      obtain ⟨ao,ap,be,aq,az,o,S⟩:=hI
      refine Ws<|Ws<|Wg<|M' az<|M' aq<|La<|We ?_
      rcases condE af with ⟨a0,af⟩ | ⟨a0,af⟩
      ·refine CT a0<|Wk<|Ws<|Wb<|WP.quiet S kr kr<|QM' be<|QM<|B af fun bu x af=>WQ.grp 14 [32,33,34,35,36,37,38,39,40,41,42,43,44] 45 (boo bu) ?_ ?_
       ·rcases boolE ay with b | b
        ·replace x:=condT x b
         refine QGy b<|QFb' ap<|QGy b ?_
         refine QB 0 v<|QGy b<|QM' aq<|QGy b<|B x fun bv bw x=>WQ.idx (α:=GParam) o rfl rfl el156 bw ?_
         rintro cx _ bx rfl
         refine QGy b<|QFc ?_
         have bz:=At.add bx 0 (by simp)
         refine QGy b ?_
         refine QH (str bv.fName) bz<|QGy b<|QFb' ap<|QGy b ?_
         refine QB 0 v<|QGy b<|QM' az<|QGy b<|B x fun b0 b1 x=>WQ.idx (α:=GParam) o rfl rfl el156 b1 ?_
         rintro cy _ b2 rfl
         refine QGy b<|QFc ?_
         have b3:=At.add b2 0 (by simp)
         refine QGy b ?_
         refine QH (str b0.fName) b3<|QGy b<|QNb<|QPt b ?_
         exact WQ.nil ⟨(ob x),ag⟩
        replace x:=condF x b
        refine QGn b<|QGn b<|QGn b<|QGn b<|QGn b<|QGn b<|QGn b<|QGn b<|QGn b<|QGn b<|QGn b<|QGn b ?_
        refine QGn b<|QPf b ?_
        exact WQ.nil ⟨(ob x),ag⟩
       intro us
       refine QA<|WQ.nil ?_
       intro cz b4 b5 S
       have o:=o.up b5
       refine Wg<|M' az<|Lg<|A<|We ?_
       obtain rfl:=oi af
       exact ⟨rfl,⟨b4,ap,rfl,aq,rfl,o,S⟩⟩
      refine CF a0<|Wx ?_
      obtain rfl:=oi af
      obtain rfl:=bt
      exact ⟨ao,ap,be,aq,o,S⟩
     rintro f w ⟨an,bf,b6,bg,o,S⟩
     refine Wg<|M' b6<|M<|B z fun b7 ac z=>WL.grp 8 [48,49,50,51,52,53,54] 55 (boo b7) ?_ ?_
     ·rcases boolE ax with d | d
      ·replace ac:=condT ac d
       refine Gy d<|Fb' bf<|Gy d ?_
       refine Lo 0 S<|Gy d<|M' bg<|Gy d<|B ac fun c0 b8 ac=>W.idx (α:=GParam) o rfl rfl el156 b8 ?_
       rintro c1 _ b9 rfl
       refine Gy d<|Fc ?_
       have ca:=At.add b9 0 (by simp)
       refine Gy d ?_
       refine Lq S ca<|Gy d<|Nb<|Pt d ?_
       exact We ⟨(ob ac),ag,rfl⟩
      replace ac:=condF ac d
      refine Gn d<|Gn d<|Gn d<|Gn d<|Gn d<|Gn d<|Gn d<|Pf d ?_
      exact We ⟨(ob ac),ag,rfl⟩
     intro us
     refine A<|We<|Wg<|M' bg<|Lg<|A<|We ?_
     obtain rfl:=oi z
     exact ⟨rfl,⟨an,bf,rfl,rfl,o,S⟩⟩
    refine CF aw<|Wx ?_
    obtain rfl:=oi z
    obtain rfl:=br
    exact ⟨aj,bb,(S.pk [])⟩
   rintro f w ⟨a9,cb,S⟩
   refine Ws<|Wg<|M' cb<|A<|We ?_
   obtain rfl:=oi c
   exact WP.ret (Rb h S)
  refine CF au<|Ws<|Wg<|Le<|A<|We ?_
  rcases condE c with ⟨a1,c⟩ | ⟨a1,c⟩
  ·refine CT a1<|Ws<|Wg<|M<|B c fun c2 cc c=>W.call S rfl (zKv S.holds k cc) ?_
   rintro c3 c4 c5 c6 S rfl
   refine A<|We ?_
   obtain rfl:=oi c
   exact WP.ret (Rb h S)
  refine CF a1<|Ws<|Ws<|Wg<|Le<|A<|We<|B c fun cd ak c=>WP.cut (fun f w=>∃ (a2:Hp),f 1=(str k)∧f 61=(boo cd)∧St t u w a2 []) ?_ ?_
  ·rcases condE ak with ⟨a3,ak⟩ | ⟨a3,ak⟩
   ·refine CT a3<|Wk ?_
    obtain rfl:=oi ak
    exact ⟨H4,rfl,rfl,S⟩
   refine CF a3<|Wg<|Le<|A<|We ?_
   obtain rfl:=oi ak
   exact ⟨H4,rfl,rfl,S⟩
  rintro f w ⟨a2,a4,bh,S⟩
  rcases condE c with ⟨a5,c⟩ | ⟨a5,c⟩
  ·refine WP.condT bh a5<|Ws<|Wg<|M' a4<|B c fun bi ce c=>W.call S rfl (zCI S.holds k ce) ?_
   rintro c7 c8 c9 da S rfl
   refine M ?_
   refine WL.grp 3 [67,68] 69 (boo (bi&&(k !=[42]))) ?_ ?_
   ·rcases boolE bi with aa | aa
    ·refine Gy aa<|M' a4<|Gy aa<|Nb<|Pt aa ?_
     exact We ⟨(andT aa),ag,rfl⟩
    refine Gn aa<|Gn aa<|Pf aa ?_
    exact We ⟨(andF aa),ag,rfl⟩
   intro us
   refine A<|We ?_
   obtain rfl:=oi c
   exact WP.ret (Rb h S)
  refine WP.condF bh a5<|Wk ?_
  obtain rfl:=oi c
  exact ⟨a2,a4,S⟩
 intro f w hM
 rcases j9 with _ | e
 ·obtain ⟨H6,h7,S⟩:=hM
  refine Ws<|Wg<|M' h7<|Ns<|Ld<|M ?_
  refine WL.grp 4 [74,75,76] 77 (boo ((decide (1≤(k.length:Int)))&&(decide ((k.length:Int)≤100)))) ?_ ?_
  ·rcases boolE (decide (1≤(k.length:Int))) with q | q
   ·refine Gy q<|M' h7<|Gy q<|Ns<|Gy q<|Lb<|Pt q ?_
    exact We ⟨(andT q),ag,rfl⟩
   refine Gn q<|Gn q<|Gn q<|Pf q ?_
   exact We ⟨(andF q),ag,rfl⟩
  intro us
  refine M<|B h fun bj ad h=>WL.grpw 3 [79,80] 81 (boo bj) (fun w=>∃ H':Hp,H6.le H'∧St t u w H' []) ?_ ?_
  ·rcases boolE ((decide (1≤(k.length:Int)))&&(decide ((k.length:Int)≤100))) with ab | ab
   ·replace ad:=condT ad ab
    refine Gy ab<|M' h7<|Gy ab<|B ad fun db cf ad=>W.call S rfl (zJh S.holds k cf) ?_
    rintro dc dd cg ch S rfl
    refine Pt ab ?_
    exact We ⟨(ob ad),ag,⟨cg,ch,S⟩⟩
   replace ad:=condF ad ab
   refine Gn ab<|Gn ab<|Pf ab ?_
   exact We ⟨(ob ad),ag,⟨H6,lr,S⟩⟩
  intro us de ⟨bk,df,S⟩
  refine M<|B h fun ci ae h=>WL.grpw 5 [83,84,85,86] 87 (boo ci) (fun w=>∃ H':Hp,bk.le H'∧St t u w H' []) ?_ ?_
  ·rcases boolE bj with p | p
   ·replace ae:=condT ae p
    refine Gy p<|M' h7<|Gy p<|B ae fun dh cj ae=>W.call S rfl (zF7 S.holds k cj) ?_
    rintro di dj ck cl S rfl
    refine Gy p<|M' h7<|Gy p<|Na<|Pt p ?_
    exact We ⟨(ob ae),ag,⟨ck,cl,S⟩⟩
   replace ae:=condF ae p
   refine Gn p<|Gn p<|Gn p<|Gn p<|Pf p ?_
   exact We ⟨(ob ae),ag,⟨bk,lr,S⟩⟩
  intro us dk ⟨dl,dm,S⟩
  refine A<|We ?_
  exact WP.ret (Rb h S)
 exact hM.elim
theorem zFT {k:World} {l:Hp} (hw:Holds k l) (d:Int) (f:Str) {r:Str} (h:zCi d f=some r) :
  Cs Tryz.prog 91 [(int d),(str f)] k l r:=by
 refine CM 20 Tryz.func91 hw fun S=>?_
 refine Ws<|Wg<|A<|We<|Ws<|Wg<|M<|B h fun o p h=>W.call S rfl (zBm S.holds f p) ?_
 rintro q t u v S rfl
 refine A<|We<|Ws<|Ws<|Wg<|M<|Le<|M ?_
 refine WL.grp 3 [10,11] 12 (boo ((d==4)&&(o==[120,45,103,122,105,112]))) ?_ ?_
 ·rcases boolE (d==4) with b | b
  ·refine Gy b<|M<|Gy b<|Na<|Pt b ?_
   exact We ⟨(andT b),ag,rfl⟩
  refine Gn b<|Gn b<|Pf b ?_
  exact We ⟨(andF b),ag,rfl⟩
 intro us
 refine We ?_
 rcases condE h with ⟨i,h⟩ | ⟨i,h⟩
 ·refine CT i<|Ws<|Wg<|A<|We ?_
  exact WP.ret (Rs h S)
 refine CF i<|Wk<|Ws<|Ws<|Wg<|M<|Le<|M ?_
 refine WL.grp 3 [16,17] 18 (boo ((d==4)&&(o==[120,45,99,111,109,112,114,101,115,115]))) ?_ ?_
 ·rcases boolE (d==4) with c | c
  ·refine Gy c<|M<|Gy c<|Na<|Pt c ?_
   exact We ⟨(andT c),ag,rfl⟩
  refine Gn c<|Gn c<|Pf c ?_
  exact We ⟨(andF c),ag,rfl⟩
 intro us
 refine We ?_
 rcases condE h with ⟨j,h⟩ | ⟨j,h⟩
 ·refine CT j<|Ws<|Wg<|A<|We ?_
  exact WP.ret (Rs h S)
 refine CF j<|Wk<|Ws<|Wg<|M<|A<|We ?_
 exact WP.ret (Rs h S)
end Go.Proofs
