/- A part. -/
import Derived.Test.YtljjaiijlaeoeaaGreatDoorEng38
import Derived.Test.YtljjaiijlaeoeaaGreatDoorEng36
import Derived.Test.YtljjaiijlaeoeaaGreatDoorGenP25
namespace Go.Proofs
set_option maxHeartbeats 4000000
set_option maxRecDepth 10000
open Go.Eng Go.Eng.Pure
set_option linter.unusedVariables false
theorem zLm {u:World} {x:Hp} (hw:Holds u x) (hG:Tryz.Gl u) (q:Str) (z:Bool) {r:(Str×(List GField)×Int×Int)} (h:zLk q z=some r) :
  Con Tryz.prog 31 [(str q),(boo z)] u x (fun H' v=>∃ u1:Value,v=(.tuple ⟨[(str r.1),u1,(int r.2.2.1),(int r.2.2.2)]⟩)∧Sl H' u1 r.2.1):=by
 refine CM 77 Tryz.func31 hw fun S=>?_
 refine Ws<|Wg<|A<|A<|A<|A<|We<|Ws<|Wg<|A<|We<|Ws ?_
 refine Wg<|A<|We<|Ws<|Wg<|A<|We<|Ws<|Wg<|A<|We ?_
 have S:=S.addNil 68 2
 refine B h fun ax ay h=>WP.cut (fun _ _=>False) ?_ (fun _ _ h=>h.elim)
 refine Wb ?_
 refine WP.loopM (zLQ q z) (fun s f w=>match s with | (au,aa,ai,t)=>∃ (H1:Hp) (o:Value),f 0=(str q)∧f 1=(boo z)∧f 8=(str au)∧f 9=o∧f 10=(int ai)∧f 11=(int t)∧Sl H1 o aa∧St u x w H1 [.row o 68 2 aa.length]) ([],([]:List GField),0,0) ax (lfW ay) ?_ ?_
 ·exact ⟨x,.slice none 0 0,rfl,rfl,rfl,rfl,rfl,rfl,Sl.nil,S⟩
 intro s f w hI bp b ab
 obtain ⟨au,aa,ai,t⟩:=s
 obtain ⟨H1,o,h2,h3,h5,h9,az,ac,c,S⟩:=hI
 refine Ws<|Wb<|Ws<|Wg<|M' h2<|M' az<|B b fun j a0 b=>W.call S rfl (zKY S.holds (hG.post S.post) q ai a0) ?_
 rintro bq br bs a1 S rfl
 have c:=c.up a1
 refine M ?_
 refine Ex ?_
 refine Ex ?_
 refine Ex<|A<|A<|A<|We<|Ws<|Ws<|Wg<|M ?_
 refine Lf<|We ?_
 rcases condE b with ⟨ak,b⟩ | ⟨ak,b⟩
 ·refine CT ak<|Ws<|Wg<|M<|A<|A<|A<|A<|We ?_
  obtain rfl:=oi b
  obtain rfl:=ab
  obtain rfl:=oi h
  refine WP.ret (Out.four rfl S rfl rfl rfl rfl ?_)
  exact ⟨_,rfl,Sl.nil⟩
 refine CF ak<|Wk<|Ws<|Wg<|M<|A<|We<|Ws<|Ws<|Wg<|M<|Lc ?_
 refine M ?_
 refine WL.grp 7 [32,33,34,35,36,37] 38 (boo ((decide (16000<j.2.1))||((decide (64<t))&&(j.1 !=[])))) ?_ ?_
 ·rcases boolE (decide (16000<j.2.1)) with d | d
  ·refine Gn d<|Gn d<|Gn d<|WL.gund rfl rfl<|WL.gund rfl rfl<|Gn d<|Pt d ?_
   exact We ⟨(orT d),ag,rfl⟩
  refine Gy d<|M' ac<|Gy d<|Lc<|Gy d<|M ?_
  refine WL.grp 3 [35,36] 37 (boo ((decide (64<t))&&(j.1 !=[]))) ?_ ?_
  ·rcases boolE (decide (64<t)) with k | k
   ·refine Gy k<|M<|Gy k<|Nb<|Gy d<|Pt k ?_
    exact We ⟨(andT k),ag,rfl⟩
   refine Gn k<|Gn k<|Gy d<|Pf k ?_
   exact We ⟨(andF k),ag,rfl⟩
  intro us
  refine Pf d ?_
  exact We ⟨(orF d),ag,rfl⟩
 intro us
 refine We ?_
 rcases condE b with ⟨al,b⟩ | ⟨al,b⟩
 ·refine CT al<|Ws<|Wg<|A<|A<|A<|A<|We ?_
  obtain rfl:=oi b
  obtain rfl:=ab
  obtain rfl:=oi h
  refine WP.ret (Out.four rfl S rfl rfl rfl rfl ?_)
  exact ⟨_,rfl,Sl.nil⟩
 refine CF al<|Wk<|Ws<|Ws<|Wg<|M' ac<|Le<|We ?_
 rcases condE b with ⟨am,b⟩ | ⟨am,b⟩
 ·refine CT am<|Ws<|Ws<|Wg<|M' h3<|We<|B b fun a2 l b=>WP.cut (fun f w=>∃ (ah:Hp),f 0=(str q)∧f 1=(boo z)∧f 9=o∧f 10=(int j.2.1)∧f 11=(int t)∧f 12=(str j.1)∧f 14=(int a2)∧Sl ah o aa∧St u x w ah [.row o 68 2 aa.length]) ?_ ?_
  ·rcases condE l with ⟨an,l⟩ | ⟨an,l⟩
   ·refine CT an<|Wg<|M<|B l fun bt a3 l=>W.call S rfl (zKv S.holds (hG.post S.post) j.1 a3) ?_
    rintro bu bv a4 a5 S rfl
    have c:=c.up a5
    refine M ?_
    refine Ex ?_
    refine Ex ?_
    refine Ex ?_
    refine Ex<|A<|We ?_
    obtain rfl:=oi l
    exact ⟨a4,h2,h3,h9,rfl,ac,rfl,rfl,c,S⟩
   refine CF an<|Wg<|M<|B l fun bw a6 l=>W.call S rfl (zKR S.holds (hG.post S.post) j.1 a6) ?_
   rintro bx bz a7 a8 S rfl
   have c:=c.up a8
   refine M ?_
   refine Ex ?_
   refine Ex ?_
   refine Ex ?_
   refine Ex<|A<|We ?_
   obtain rfl:=oi l
   exact ⟨a7,h2,h3,h9,rfl,ac,rfl,rfl,c,S⟩
  rintro f w ⟨ah,a9,ba,bb,bc,bd,be,aw,c,S⟩
  refine Ws<|Ws<|Wg<|M' aw<|Lf<|We ?_
  rcases condE b with ⟨ao,b⟩ | ⟨ao,b⟩
  ·refine CT ao<|Ws<|Wg<|M' aw<|A<|A<|A<|A<|We ?_
   obtain rfl:=oi b
   obtain rfl:=ab
   obtain rfl:=oi h
   refine WP.ret (Out.four rfl S rfl rfl rfl rfl ?_)
   exact ⟨_,rfl,Sl.nil⟩
  refine CF ao<|Wk<|Ws<|Wg<|M' be<|A<|We<|Wx<|Wg<|M' bd<|Lg<|A ?_
  refine We ?_
  obtain rfl:=oi b
  exact ⟨rfl,⟨ah,o,a9,ba,rfl,bb,bc,rfl,c,S⟩⟩
 refine CF am<|Wk<|Ws<|Ws<|Wg<|M<|Na<|We ?_
 rcases condE b with ⟨ap,b⟩ | ⟨ap,b⟩
 ·refine CT ap<|Ws<|Wg<|M' h5<|M' h9<|M<|A<|A<|A<|A<|We ?_
  obtain rfl:=oi b
  obtain rfl:=ab
  obtain rfl:=oi h
  refine WP.ret (Out.four rfl S rfl rfl rfl rfl ?_)
  exact ⟨_,rfl,c⟩
 refine CF ap<|Wk<|Ws<|Wg<|M<|B b fun p bf b=>W.call S rfl (zKl S.holds (hG.post S.post) j.1 bf) ?_
 rintro b0 b1 b2 bg S rfl
 have c:=c.up bg
 refine M ?_
 refine Ex ?_
 refine Ex ?_
 refine W.alloc [(str []),(str [])] S zer68 ?_
 intro b3 b4 S
 refine W.store (i:=0) [(str p.1.fName),(str p.1.fValue)] S rfl rfl rfl lay68 rfl rfl (Nat.le_of_ble_eq_true rfl) rfl ?_
 intro b5 S
 refine A<|We<|Ws<|Ws<|Wg<|M<|Lf<|We ?_
 rcases condE b with ⟨aq,b⟩ | ⟨aq,b⟩
 ·refine CT aq<|Ws<|Wg<|M<|A<|A<|A<|A<|We ?_
  obtain rfl:=oi b
  obtain rfl:=ab
  obtain rfl:=oi h
  refine WP.ret (Out.four rfl S rfl rfl rfl rfl ?_)
  exact ⟨_,rfl,Sl.nil⟩
 refine CF aq<|Wk<|Wg<|M' h9 ?_
 refine WL.w (R.loadBN (i:=0) (vs:=[(str p.1.fName),(str p.1.fValue)]) S rfl rfl lay68 rfl rfl)<|W.bslice (α:=GField) [(agg [(str p.1.fName),(str p.1.fValue)])] ([p.1]:List GField) S el22 rfl rfl rfl (by decide) (Go.Eng.encS ⟨rfl,rfl⟩ enc0) ?_
 intro b6 b7 b8 bh bi S
 have c:=c.up bh
 refine B b fun b9 bj b=>W.app (α:=GField) (i:=2) S el22 rfl rfl rfl c bi bj ?_
 intro bk ca bn cb bo S
 refine A<|We<|Wg<|M' ac<|Lg<|A<|We ?_
 obtain rfl:=oi b
 exact ⟨rfl,⟨bn,bk,h2,h3,h5,rfl,rfl,rfl,bo,(S.pk [2])⟩⟩
theorem zLV {l:World} {j:Hp} (hw:Holds l j) (hG:Tryz.Gl l) (u:(List GField)) (o:Str) {x:Value} (c:Sl j x u) {r:(List Str)} (h:zLb u o=some r) :
  Con Tryz.prog 72 [x,(str o)] l j (fun H' v=>Sl H' v r):=by
 refine CM 29 Tryz.func72 hw fun S=>?_
 refine Ws<|Wg<|A<|We<|Ws<|Wg<|A<|We<|Ws<|Ws<|Wg<|A ?_
 refine We ?_
 have S:=S.addNil 9 1
 refine B h fun aa ak h=>WP.cut (fun f w=>∃ (ab:Hp) (z:Value),f 5=z∧Sl ab z aa∧St l j w ab [.row z 9 1 aa.length]) ?_ ?_
 ·refine Wb ?_
  refine WP.loopM (zLY u o) (fun s f w=>match s with | (ac,ai)=>∃ (p:Hp) (k:Value),f 0=x∧f 1=(str o)∧f 5=k∧f 6=(int ai)∧Sl p x u∧Sl p k ac∧St l j w p [.row k 9 1 ac.length]) (([]:List Str),0) aa (lfW ak) ?_ ?_
  ·exact ⟨j,.slice none 0 0,rfl,rfl,rfl,rfl,c,Sl.nil,S⟩
  intro s f w hI a7 b al
  obtain ⟨ac,ai⟩:=s
  obtain ⟨p,k,q,h3,h7,t,c,d,S⟩:=hI
  refine Ws<|Ws<|Wg<|M' t<|M' q<|Nq c<|La<|We ?_
  rcases condE b with ⟨af,b⟩ | ⟨af,b⟩
  ·refine CT af<|Wk<|Ws<|Wb<|Ws<|Wg<|M' q<|M' t<|B b fun am an b=>W.idx (α:=GField) c rfl rfl el22 an ?_
   rintro a8 _ ao rfl
   refine Fc ?_
   have ap:=At.add ao 0 (by simp)
   refine Lq S ap<|M' h3<|B b fun a9 aq b=>W.call S rfl (zKy S.holds (hG.post S.post) am.fName o aq) ?_
   rintro ba bb ar au S rfl
   have ⟨c,d⟩:=U2 au c d
   refine We ?_
   rcases condE b with ⟨ah,b⟩ | ⟨ah,b⟩
   ·refine CT ah<|Wg<|M' h7<|M' q<|M' t<|B b fun aj av b=>W.idx (α:=GField) c rfl rfl el22 av ?_
    rintro bc _ aw rfl
    refine Fc ?_
    have ax:=At.add aw 1 (by simp)
    refine Lq S ax<|W.bslice (α:=Str) [(str aj.fValue)] ([aj.fValue]:List Str) S el45 rfl rfl rfl (by decide) (Go.Eng.encS ⟨rfl,rfl⟩ enc0) ?_
    intro bd be bf ay az S
    have ⟨c,d⟩:=U2 ay c d
    refine B b fun bg a0 b=>W.app (α:=Str) (i:=1) S el45 rfl rfl rfl d az a0 ?_
    intro a1 bh a2 a3 a4 S
    have ⟨c,d⟩:=U2 a3 c d
    refine A<|We<|Wg<|M' t<|Lg<|A<|We ?_
    obtain rfl:=oi b
    exact ⟨rfl,⟨a2,a1,q,h3,rfl,rfl,c,a4,(S.pk [1])⟩⟩
   refine CF ah<|Wk<|Wg<|M' t<|Lg<|A<|We ?_
   obtain rfl:=oi b
   exact ⟨rfl,⟨ar,k,q,h3,h7,rfl,c,d,S⟩⟩
  refine CF af<|Wx ?_
  obtain rfl:=oi b
  obtain rfl:=al
  exact ⟨p,k,h7,d,S⟩
 rintro f w ⟨ab,z,a5,a6,S⟩
 refine Ws<|Wg<|M' a5<|A<|We ?_
 exact WP.ret (Rl h S a6)
theorem zLh {t:World} {u:Hp} (hw:Holds t u) (hG:Tryz.Gl t) (x:(List GField)) {ai:Value} (z:Sl u ai x) {r:(Int×Int)} (h:zLa x=some r) :
  Con Tryz.prog 33 [ai] t u (fun H' v=>v=(.tuple ⟨[(int r.1),(int r.2)]⟩)):=by
 refine CM 63 Tryz.func33 hw fun S=>?_
 refine Ws<|Wg<|A<|A<|We<|Ws<|Wg<|M<|B h fun q al h=>W.call S rfl (zLV S.holds (hG.post S.post) x [84,114,97,110,115,102,101,114,45,69,110,99,111,100,105,110,103] z al) ?_
 rintro v2 w3 H4 am S f
 have z:=z.up am
 refine M<|B h fun r7 an h=>W.call S rfl (zLV S.holds (hG.post S.post) x [67,111,110,116,101,110,116,45,76,101,110,103,116,104] z an) ?_
 rintro v8 w9 ab ao S i
 have f:=f.up ao
 refine A<|A<|We<|Ws<|Ws<|Wg<|M<|Nq f<|Lc<|M<|B h fun ap o h=>WL.grpw 11 [16,17,18,19,20,21,22,23,24,25] 26 (boo ap) (fun w=>∃ H':Hp,ab.le H'∧St t u w H' []) ?_ ?_
 ·rcases boolE (decide (1<(q.length:Int))) with b | b
  ·replace o:=condT o b
   refine Gn b<|Gn b<|Gn b<|Gn b<|WL.gund rfl rfl<|WL.gund rfl rfl<|WL.gund rfl rfl<|WL.gund rfl rfl<|WL.gund rfl rfl<|Gn b<|Pt b ?_
   exact We ⟨(ob o),ag,⟨ab,lr,S⟩⟩
  replace o:=condF o b
  refine Gy b<|M<|Gy b<|Nq f<|Gy b<|Le<|Gy b<|M<|B o fun aq l o=>WL.grpw 6 [20,21,22,23,24] 25 (boo aq) (fun w=>∃ H':Hp,ab.le H'∧St t u w H' []) ?_ ?_
  ·rcases boolE ((q.length:Int)==1) with c | c
   ·replace l:=condT l c
    refine Gy c<|M<|Gy c<|B l fun ar au l=>W.idx (α:=Str) f rfl rfl el45 au ?_
    rintro be _ av rfl
    refine Gy c ?_
    refine Lq S av<|Gy c<|B l fun bf aw l=>W.call S rfl (zKy S.holds (hG.post S.post) ar [99,104,117,110,107,101,100] aw) ?_
    rintro bg bh ax aj S rfl
    have ⟨f,i⟩:=U2 aj f i
    refine Gy c<|No<|Gy b<|Pt c ?_
    exact We ⟨(ob l),ag,⟨ax,aj,S⟩⟩
   replace l:=condF l c
   refine Gn c<|Gn c<|Gn c<|Gn c<|Gn c<|Gy b<|Pf c ?_
   exact We ⟨(ob l),ag,⟨ab,lr,S⟩⟩
  intro us bi ⟨ay,ak,S⟩
  have ⟨f,i⟩:=U2 ak f i
  refine Pf b ?_
  exact We ⟨(ob o),ag,⟨ay,ak,S⟩⟩
 intro us bj ⟨bk,az,S⟩
 have ⟨f,i⟩:=U2 az f i
 refine We ?_
 rcases condE h with ⟨ac,h⟩ | ⟨ac,h⟩
 ·refine CT ac<|Ws<|Wg<|A<|A<|We ?_
  obtain rfl:=oi h
  refine WP.ret (Out.two rfl S rfl rfl ?_)
  exact rfl
 refine CF ac<|Wk<|Ws<|Ws<|Wg<|M<|Nq f<|Lc<|M ?_
 refine WL.grp 4 [31,32,33] 34 (boo ((decide (0<(q.length:Int)))&&(decide (0<(r7.length:Int))))) ?_ ?_
 ·rcases boolE (decide (0<(q.length:Int))) with j | j
  ·refine Gy j<|M<|Gy j<|Nq i<|Gy j<|Lc<|Pt j ?_
   exact We ⟨(andT j),ag,rfl⟩
  refine Gn j<|Gn j<|Gn j<|Pf j ?_
  exact We ⟨(andF j),ag,rfl⟩
 intro us
 refine M ?_
 refine WL.grp 4 [36,37,38] 39 (boo (((decide (0<(q.length:Int)))&&(decide (0<(r7.length:Int))))||(decide (1<(r7.length:Int))))) ?_ ?_
 ·rcases boolE ((decide (0<(q.length:Int)))&&(decide (0<(r7.length:Int)))) with k | k
  ·refine Gn k<|Gn k<|Gn k<|Pt k ?_
   exact We ⟨(orT k),ag,rfl⟩
  refine Gy k<|M<|Gy k<|Nq i<|Gy k<|Lc<|Pf k ?_
  exact We ⟨(orF k),ag,rfl⟩
 intro us
 refine We ?_
 rcases condE h with ⟨ad,h⟩ | ⟨ad,h⟩
 ·refine CT ad<|Ws<|Wg<|A<|A<|We ?_
  obtain rfl:=oi h
  refine WP.ret (Out.two rfl S rfl rfl ?_)
  exact rfl
 refine CF ad<|Wk<|Ws<|Ws<|Wg<|M<|Nq f<|Lc<|We ?_
 rcases condE h with ⟨ae,h⟩ | ⟨ae,h⟩
 ·refine CT ae<|Ws<|Wg<|A<|A<|We ?_
  obtain rfl:=oi h
  refine WP.ret (Out.two rfl S rfl rfl ?_)
  exact rfl
 refine CF ae<|Wk<|Ws<|Ws<|Wg<|M<|Nq i<|Le<|We ?_
 rcases condE h with ⟨af,h⟩ | ⟨af,h⟩
 ·refine CT af<|Ws<|Wg<|A<|A<|We ?_
  obtain rfl:=oi h
  refine WP.ret (Out.two rfl S rfl rfl ?_)
  exact rfl
 refine CF af<|Wk<|Ws<|Wg<|M<|B h fun a0 a1 h=>W.idx (α:=Str) i rfl rfl el45 a1 ?_
 rintro bn _ a2 rfl
 refine Lq S a2<|B h fun a3 a4 h=>W.call S rfl (zK6 S.holds (hG.post S.post) a0 a4) ?_
 rintro bo bp bq a5 S rfl
 have i:=i.up a5
 refine M ?_
 refine Ex ?_
 refine Ex<|A<|A<|We<|Ws<|Ws<|Wg<|M<|No<|M<|B h fun a6 p h=>WL.grp 6 [56,57,58,59,60] 61 (boo a6) ?_ ?_
 ·rcases boolE (!a3.2) with d | d
  ·replace p:=condT p d
   refine Gn d<|Gn d<|Gn d<|Gn d<|Gn d<|Pt d ?_
   exact We ⟨(ob p),ag,rfl⟩
  replace p:=condF p d
  refine Gy d<|M<|Gy d<|B p fun br a7 p=>W.idx (α:=Str) i rfl rfl el45 a7 ?_
  rintro bs _ a8 rfl
  refine Gy d ?_
  refine Lq S a8<|Gy d<|Ns<|Gy d<|Lc<|Pf d ?_
  exact We ⟨(ob p),ag,rfl⟩
 intro us
 refine We ?_
 rcases condE h with ⟨ah,h⟩ | ⟨ah,h⟩
 ·refine CT ah<|Ws<|Wg<|A<|A<|We ?_
  obtain rfl:=oi h
  refine WP.ret (Out.two rfl S rfl rfl ?_)
  exact rfl
 refine CF ah<|Wk<|Ws<|Wg<|M<|A<|A<|We ?_
 obtain rfl:=oi h
 refine WP.ret (Out.two rfl S rfl rfl ?_)
 exact rfl
theorem zLW {f:World} {l:Hp} (hw:Holds f l) (hG:Tryz.Gl f) (b:UInt8) {r:Int} (h:zLd b=some r) :
  Ci Tryz.prog 201 [(byt b)] f l r:=by
 refine CM 31 Tryz.func201 hw fun S=>?_
 refine Ws<|Wg<|A<|We<|Ws<|Wb<|Ws<|Wg<|M<|B h fun p o h=>W.call S rfl (zKS S.holds (hG.post S.post) b o) ?_
 rintro q t u v S rfl
 refine A<|We ?_
 rcases condE h with ⟨i,h⟩ | ⟨i,h⟩
 ·refine CT i<|Ws<|Wg<|M<|Mh b 48 ?_
  refine WL.w (R.i64of8 (a:=b - 48) rfl Tryz.underlying5 Tryz.underlying3)<|A<|We ?_
  exact WP.ret (Ri h S)
 refine CF i<|Ws<|Wg<|M<|Md b 97<|M ?_
 refine WL.grp 3 [13,14] 15 (boo ((decide (97≤b))&&(decide (b≤102)))) ?_ ?_
 ·rcases boolE (decide (97≤b)) with c | c
  ·refine Gy c<|M<|Gy c<|Mb b 102<|Pt c ?_
   exact We ⟨(andT c),ag,rfl⟩
  refine Gn c<|Gn c<|Pf c ?_
  exact We ⟨(andF c),ag,rfl⟩
 intro us
 refine A<|We ?_
 rcases condE h with ⟨j,h⟩ | ⟨j,h⟩
 ·refine CT j<|Ws<|Wg<|M<|Mh b 97 ?_
  refine WL.w (R.i64of8 (a:=b - 97) rfl Tryz.underlying5 Tryz.underlying3)<|Lg<|A<|We ?_
  exact WP.ret (Ri h S)
 refine CF j<|Ws<|Wg<|M<|Md b 65<|M ?_
 refine WL.grp 3 [24,25] 26 (boo ((decide (65≤b))&&(decide (b≤70)))) ?_ ?_
 ·rcases boolE (decide (65≤b)) with d | d
  ·refine Gy d<|M<|Gy d<|Mb b 70<|Pt d ?_
   exact We ⟨(andT d),ag,rfl⟩
  refine Gn d<|Gn d<|Pf d ?_
  exact We ⟨(andF d),ag,rfl⟩
 intro us
 refine A<|We ?_
 rcases condE h with ⟨k,h⟩ | ⟨k,h⟩
 ·refine CT k<|Ws<|Wg<|M<|Mh b 65 ?_
  refine WL.w (R.i64of8 (a:=b - 65) rfl Tryz.underlying5 Tryz.underlying3)<|Lg<|A<|We ?_
  exact WP.ret (Ri h S)
 refine CF k<|Wk<|Ws<|Wg<|A<|We ?_
 exact WP.ret (Ri h S)
theorem zLl {o:World} {p:Hp} (hw:Holds o p) (hG:Tryz.Gl o) (q:Str) {r:(Int×Bool)} (h:zLi q=some r) :
  Con Tryz.prog 134 [(str q)] o p (fun H' v=>v=(.tuple ⟨[(int r.1),(boo r.2)]⟩)):=by
 refine CM 58 Tryz.func134 hw fun S=>?_
 refine Ws<|Wg<|A<|A<|We<|Ws<|Wg<|A<|A<|We<|Ws<|B h fun j a0 h=>WP.cut (fun f w=>∃ (H6:Hp),f 0=(str q)∧f 4=(int 0)∧f 5=(int j)∧St o p w H6 []) ?_ ?_
 ·refine Wb ?_
  refine WP.loopM (zLR q) (fun s f w=>match s with | ai=>∃ (H1:Hp),f 0=(str q)∧f 4=(int 0)∧f 5=(int ai)∧St o p w H1 []) 0 j (lfW a0) ?_ ?_
  ·exact ⟨p,rfl,rfl,rfl,S⟩
  intro ai f w hI bs aa a1
  obtain ⟨H1,h2,h3,h5,S⟩:=hI
  refine Ws<|Ws<|Wg<|M' h5<|M' h2<|Ns<|La<|M<|B aa fun a2 k aa=>WL.grpw 6 [12,13,14,15,16] 17 (boo a2) (fun w=>∃ H':Hp,H1.le H'∧St o p w H' []) ?_ ?_
  ·rcases boolE (decide (ai<(q.length:Int))) with c | c
   ·replace k:=condT k c
    refine Gy c<|M' h2<|Gy c<|M' h5<|Gy c<|B k fun a3 a4 k=>Ja a4<|Gy c<|B k fun bt a5 k=>W.call S rfl (zLW S.holds (hG.post S.post) a3 a5) ?_
    rintro bu bv a6 a7 S rfl
    refine Gy c<|Ld<|Pt c ?_
    exact We ⟨(ob k),ag,⟨a6,a7,S⟩⟩
   replace k:=condF k c
   refine Gn c<|Gn c<|Gn c<|Gn c<|Gn c<|Pf c ?_
   exact We ⟨(ob k),ag,⟨H1,lr,S⟩⟩
  intro us bw ⟨ap,bx,S⟩
  refine We ?_
  rcases condE aa with ⟨aj,aa⟩ | ⟨aj,aa⟩
  ·refine CT aj<|Wk<|Wb<|Wg<|M' h5<|Lg<|A<|We ?_
   obtain rfl:=oi aa
   exact ⟨rfl,⟨ap,h2,h3,rfl,S⟩⟩
  refine CF aj<|Wx ?_
  obtain rfl:=oi aa
  obtain rfl:=a1
  exact ⟨ap,h2,h3,h5,S⟩
 rintro f w ⟨H6,h7,h8,ab,S⟩
 refine Ws<|Ws<|Wg<|M' ab<|La<|M ?_
 refine WL.grp 3 [23,24] 25 (boo ((decide (j<1))||(decide (8<j)))) ?_ ?_
 ·rcases boolE (decide (j<1)) with t | t
  ·refine Gn t<|Gn t<|Pt t ?_
   exact We ⟨(orT t),ag,rfl⟩
  refine Gy t<|M' ab<|Gy t<|Lc<|Pf t ?_
  exact We ⟨(orF t),ag,rfl⟩
 intro us
 refine M<|B h fun aq x h=>WL.grp 11 [27,28,29,30,31,32,33,34,35,36] 37 (boo aq) ?_ ?_
 ·rcases boolE ((decide (j<1))||(decide (8<j))) with b | b
  ·replace x:=condT x b
   refine Gn b<|Gn b<|Gn b<|Gn b<|Gn b<|WL.gund rfl rfl<|WL.gund rfl rfl<|WL.gund rfl rfl<|WL.gund rfl rfl<|Gn b<|Pt b ?_
   exact We ⟨(ob x),ag,rfl⟩
  replace x:=condF x b
  refine Gy b<|M' ab<|Gy b<|M' h7<|Gy b<|Ns<|Gy b<|La<|Gy b<|M<|B x fun a9 z x=>WL.grp 5 [32,33,34,35] 36 (boo a9) ?_ ?_
  ·rcases boolE (decide (j<(q.length:Int))) with i | i
   ·replace z:=condT z i
    refine Gy i<|M' h7<|Gy i<|M' ab<|Gy i<|B z fun ba bb z=>Ja bb<|Gy i<|Mf ba 59<|Gy b<|Pt i ?_
    exact We ⟨(ob z),ag,rfl⟩
   replace z:=condF z i
   refine Gn i<|Gn i<|Gn i<|Gn i<|Gy b<|Pf i ?_
   exact We ⟨(ob z),ag,rfl⟩
  intro us
  refine Pf b ?_
  exact We ⟨(ob x),ag,rfl⟩
 intro us
 refine M<|B h fun bc l h=>WL.grpw 6 [39,40,41,42,43] 44 (boo bc) (fun w=>∃ H':Hp,H6.le H'∧St o p w H' []) ?_ ?_
 ·rcases boolE aq with d | d
  ·replace l:=condT l d
   refine Gn d<|Gn d<|Gn d<|Gn d<|Gn d<|Pt d ?_
   exact We ⟨(ob l),ag,⟨H6,lr,S⟩⟩
  replace l:=condF l d
  refine Gy d<|M' h7<|Gy d<|M' ab<|Gy d<|B l fun bd be l=>Jc be<|Gy d<|B l fun bz bf l=>W.call S rfl (zKi S.holds (hG.post S.post) bd bf) ?_
  rintro b0 b1 bg bh S rfl
  refine Gy d<|No<|Pf d ?_
  exact We ⟨(ob l),ag,⟨bg,bh,S⟩⟩
 intro us b2 ⟨bi,b3,S⟩
 refine We ?_
 rcases condE h with ⟨ak,h⟩ | ⟨ak,h⟩
 ·refine CT ak<|Ws<|Wg<|A<|A<|We ?_
  obtain rfl:=oi h
  refine WP.ret (Out.two rfl S rfl rfl ?_)
  exact rfl
 refine CF ak<|Wk<|Ws<|Ws<|Wg<|A<|We<|B h fun ar bj h=>WP.cut (fun f w=>∃ (au:Hp),f 4=(int ar)∧St o p w au []) ?_ ?_
 ·refine Wb ?_
  refine WP.loopM (zLO q j) (fun s f w=>match s with | (av,aw)=>∃ (al:Hp),f 0=(str q)∧f 4=(int av)∧f 5=(int j)∧f 6=(int aw)∧St o p w al []) (0,0) ar (lfW bj) ?_ ?_
  ·exact ⟨bi,h7,h8,ab,rfl,S⟩
  intro s f w hI b4 u bk
  obtain ⟨av,aw⟩:=s
  obtain ⟨al,ax,ay,az,am,S⟩:=hI
  refine Ws<|Ws<|Wg<|M' am<|M' az<|La<|We ?_
  rcases condE u with ⟨an,u⟩ | ⟨an,u⟩
  ·refine CT an<|Wk<|Ws<|Wb<|Wg<|M' ay<|Li<|M' ax<|M' am<|B u fun bn bo u=>Ja bo<|B u fun b5 bp u=>W.call S rfl (zLW S.holds (hG.post S.post) bn bp) ?_
   rintro b6 b7 bq b8 S rfl
   refine Lg<|A<|We<|Wg<|M' am<|Lg<|A<|We ?_
   obtain rfl:=oi u
   exact ⟨rfl,⟨bq,ax,rfl,az,rfl,S⟩⟩
  refine CF an<|Wx ?_
  obtain rfl:=oi u
  obtain rfl:=bk
  exact ⟨al,ay,S⟩
 rintro f w ⟨au,br,S⟩
 refine Ws<|Wg<|M' br<|A<|A<|We ?_
 obtain rfl:=oi h
 refine WP.ret (Out.two rfl S rfl rfl ?_)
 exact rfl
theorem zLE {p:World} {q:Hp} (hw:Holds p q) (hG:Tryz.Gl p) (j:Str) {r:(Str×Int×Int)} (h:zKq j=some r) :
  Con Tryz.prog 75 [(str j)] p q (fun H' v=>v=(.tuple ⟨[(str r.1),(int r.2.1),(int r.2.2)]⟩)):=by
 refine CM 107 Tryz.func75 hw fun S=>?_
 refine Ws<|Wg<|A<|A<|A<|We<|Ws<|Wg<|A<|We<|Ws<|Wg ?_
 refine A<|We<|Ws<|B h fun aa a3 h=>WP.cut (fun f w=>match aa with | .inl (u,ab)=>∃ (H7:Hp),f 0=(str j)∧f 5=(str u)∧f 6=(int ab)∧St p q w H7 [] | .inr _=>False) ?_ ?_
 ·refine Wb ?_
  refine WP.loopM (zKg j) (fun s f w=>match s with | (au,ad)=>∃ (H1:Hp),f 0=(str j)∧f 5=(str au)∧f 6=(int ad)∧St p q w H1 []) ([],0) aa (lfW a3) ?_ ?_
  ·exact ⟨q,rfl,rfl,rfl,S⟩
  intro s f w hI bp b o
  obtain ⟨au,ad⟩:=s
  obtain ⟨H1,t,h4,h6,S⟩:=hI
  refine Wb<|Ws<|Wg<|M' t<|M' h6<|B b fun a5 a6 b=>W.call S rfl (zKY S.holds (hG.post S.post) j ad a6) ?_
  rintro bq br bs bt S rfl
  refine M ?_
  refine Ex ?_
  refine Ex ?_
  refine Ex<|A<|A<|A<|We<|Ws<|Ws<|Wg<|M ?_
  refine Lf<|We ?_
  rcases condE b with ⟨af,b⟩ | ⟨af,b⟩
  ·refine CT af<|Ws<|Wg<|M<|A<|A<|A<|We ?_
   obtain rfl:=oi b
   obtain rfl:=o
   obtain rfl:=oi h
   refine WP.ret (Out.three rfl S rfl rfl rfl ?_)
   exact rfl
  refine CF af<|Wk<|Ws<|Wg<|M<|B b fun bu a7 b=>W.call S rfl (zLl S.holds (hG.post S.post) a5.1 a7) ?_
  rintro bv bw aw bx S rfl
  refine M ?_
  refine Ex ?_
  refine Ex<|A<|A<|We<|Ws<|Ws<|Wg<|M<|No<|We ?_
  rcases condE b with ⟨ah,b⟩ | ⟨ah,b⟩
  ·refine CT ah<|Ws<|Wg<|A<|A<|A<|We ?_
   obtain rfl:=oi b
   obtain rfl:=o
   obtain rfl:=oi h
   refine WP.ret (Out.three rfl S rfl rfl rfl ?_)
   exact rfl
  refine CF ah<|Wk<|Ws<|Ws<|Wg<|M<|M' h4<|Ns<|Lh<|Lc<|We ?_
  rcases condE b with ⟨ai,b⟩ | ⟨ai,b⟩
  ·refine CT ai<|Ws<|Wg<|A<|A<|A<|We ?_
   obtain rfl:=oi b
   obtain rfl:=o
   obtain rfl:=oi h
   refine WP.ret (Out.three rfl S rfl rfl rfl ?_)
   exact rfl
  refine CF ai<|Wk<|Ws<|Wg<|M<|A<|We<|Ws<|Ws<|Wg<|M<|Le ?_
  refine We ?_
  rcases condE b with ⟨aj,b⟩ | ⟨aj,b⟩
  ·refine CT aj<|Wx ?_
   obtain rfl:=oi b
   obtain rfl:=o
   exact ⟨aw,t,h4,rfl,S⟩
  refine CF aj<|Wk<|Ws<|Ws<|Wg<|M' t<|Ns<|M<|Lh<|M<|La<|We ?_
  rcases condE b with ⟨ak,b⟩ | ⟨ak,b⟩
  ·refine CT ak<|Ws<|Wg<|A<|A<|A<|We ?_
   obtain rfl:=oi b
   obtain rfl:=o
   obtain rfl:=oi h
   refine WP.ret (Out.three rfl S rfl rfl rfl ?_)
   exact rfl
  refine CF ak<|Wk<|Ws<|Wg<|M' h4<|M' t<|M<|M<|M<|Lg<|B b fun bz a8 b=>Jb a8<|B b fun b0 a9 b=>Je a9<|A<|We<|Ws<|Wg<|M<|M<|Lg<|A<|We<|Ws<|Wg ?_
  refine M' t<|M<|B b fun x ba b=>Jc ba<|A<|We<|Ws<|Ws<|Wg<|M<|Na<|M ?_
  refine WL.grp 3 [67,68] 69 (boo ((x==[])||(x==[13]))) ?_ ?_
  ·rcases boolE (x==[]) with k | k
   ·refine Gn k<|Gn k<|Pt k ?_
    exact We ⟨(orT k),ag,rfl⟩
   refine Gy k<|M<|Gy k<|Na<|Pf k ?_
   exact We ⟨(orF k),ag,rfl⟩
  intro us
  refine We ?_
  rcases condE b with ⟨al,b⟩ | ⟨al,b⟩
  ·refine CT al<|Ws<|Wg<|A<|A<|A<|We ?_
   obtain rfl:=oi b
   obtain rfl:=o
   obtain rfl:=oi h
   refine WP.ret (Out.three rfl S rfl rfl rfl ?_)
   exact rfl
  refine CF al<|Wk<|Ws<|Ws<|Wg<|M<|Ns<|La<|M<|B b fun bb l b=>WL.grp 4 [74,75,76] 77 (boo bb) ?_ ?_
  ·rcases boolE (decide ((x.length:Int)<2)) with d | d
   ·replace l:=condT l d
    refine Gn d<|Gn d<|Gn d<|Pt d ?_
    exact We ⟨(ob l),ag,rfl⟩
   replace l:=condF l d
   refine Gy d<|M<|Gy d<|B l fun b1 bc l=>Jd bc<|Gy d<|Nb<|Pf d ?_
   exact We ⟨(ob l),ag,rfl⟩
  intro us
  refine We ?_
  rcases condE b with ⟨am,b⟩ | ⟨am,b⟩
  ·refine CT am<|Ws<|Wg<|A<|A<|A<|We ?_
   obtain rfl:=oi b
   obtain rfl:=o
   obtain rfl:=oi h
   refine WP.ret (Out.three rfl S rfl rfl rfl ?_)
   exact rfl
  refine CF am<|Wk<|Wg<|M<|Lg<|A<|We ?_
  obtain rfl:=oi b
  exact ⟨rfl,⟨aw,t,rfl,rfl,S⟩⟩
 intro f w hM
 rcases aa with ⟨u,ab⟩ | e
 ·obtain ⟨H7,h8,be,bf,S⟩:=hM
  refine Ws<|Wg<|A<|We<|B h fun bg bh h=>WP.cut (fun _ _=>False) ?_ (fun _ _ h=>h.elim)
  refine Wb ?_
  refine WP.loopM (zKf j u) (fun s f w=>match s with | (an,ax)=>∃ (ay:Hp),f 0=(str j)∧f 5=(str u)∧f 6=(int an)∧f 13=(int ax)∧St p q w ay []) (ab,0) bg (lfW bh) ?_ ?_
  ·exact ⟨H7,h8,be,bf,rfl,S⟩
  intro s f w hI b2 c z
  obtain ⟨an,ax⟩:=s
  obtain ⟨ay,az,a0,bi,a1,S⟩:=hI
  refine Ws<|Wb<|Ws<|Wg<|M' az<|M' bi<|B c fun bj bk c=>W.call S rfl (zKY S.holds (hG.post S.post) j an bk) ?_
  rintro b3 b4 b5 b6 S rfl
  refine M ?_
  refine Ex ?_
  refine Ex ?_
  refine Ex<|A<|A<|A<|We<|Ws<|Ws<|Wg<|M ?_
  refine Lf<|We ?_
  rcases condE c with ⟨ao,c⟩ | ⟨ao,c⟩
  ·refine CT ao<|Ws<|Wg<|M<|A<|A<|A<|We ?_
   obtain rfl:=oi c
   obtain rfl:=z
   obtain rfl:=oi h
   refine WP.ret (Out.three rfl S rfl rfl rfl ?_)
   exact rfl
  refine CF ao<|Wk<|Ws<|Wg<|M<|A<|We<|Ws<|Ws<|Wg<|M<|Na ?_
  refine We ?_
  rcases condE c with ⟨ap,c⟩ | ⟨ap,c⟩
  ·refine CT ap<|Ws<|Wg<|M' a0<|M<|A<|A<|A<|We ?_
   obtain rfl:=oi c
   obtain rfl:=z
   obtain rfl:=oi h
   refine WP.ret (Out.three rfl S rfl rfl rfl ?_)
   exact rfl
  refine CF ap<|Wk<|Ws<|Ws<|Wg<|M' a1<|Le<|We ?_
  rcases condE c with ⟨aq,c⟩ | ⟨aq,c⟩
  ·refine CT aq<|Ws<|Wg<|A<|A<|A<|We ?_
   obtain rfl:=oi c
   obtain rfl:=z
   obtain rfl:=oi h
   refine WP.ret (Out.three rfl S rfl rfl rfl ?_)
   exact rfl
  refine CF aq<|Wk<|Ws<|Wg<|M<|B c fun a2 bn c=>W.call S rfl (zKl S.holds (hG.post S.post) bj.1 bn) ?_
  rintro b7 b8 bo b9 S rfl
  refine M ?_
  refine Ex ?_
  refine Ex ?_
  refine W.alloc [(str []),(str [])] S zer68 ?_
  intro ca cb S
  refine W.store (i:=0) [(str a2.1.fName),(str a2.1.fValue)] S rfl rfl rfl lay68 rfl rfl (Nat.le_of_ble_eq_true rfl) rfl ?_
  intro cc S
  refine A<|We<|Ws<|Wg<|M<|Lf<|We ?_
  rcases condE c with ⟨ar,c⟩ | ⟨ar,c⟩
  ·refine CT ar<|Ws<|Wg<|M<|A<|A<|A<|We ?_
   obtain rfl:=oi c
   obtain rfl:=z
   obtain rfl:=oi h
   refine WP.ret (Out.three rfl S rfl rfl rfl ?_)
   exact rfl
  refine CF ar<|Wk<|Wg<|M' a1<|Lg<|A<|We ?_
  obtain rfl:=oi c
  exact ⟨rfl,⟨bo,az,a0,rfl,rfl,(S.pk [])⟩⟩
 exact hM.elim
theorem zLn {b:World} {j:Hp} (hw:Holds b j) (hG:Tryz.Gl b) (k:Str) (l:Int) (o:Int) {r:(Str×Int×Int)} (h:zLj k l o=some r) :
  Con Tryz.prog 35 [(str k),(int l),(int o)] b j (fun H' v=>v=(.tuple ⟨[(str r.1),(int r.2.1),(int r.2.2)]⟩)):=by
 refine CM 46 Tryz.func35 hw fun S=>?_
 refine Ws<|Wg<|A<|A<|A<|We<|Ws<|Ws<|Wg<|M<|Le<|We ?_
 rcases condE h with ⟨c,h⟩ | ⟨c,h⟩
 ·refine CT c<|Ws<|Wg<|M<|M<|B h fun p q h=>Jc q<|B h fun x t h=>W.call S rfl (zLE S.holds (hG.post S.post) p t) ?_
  rintro z w5 H6 ac S rfl
  refine M ?_
  refine Ex ?_
  refine Ex ?_
  refine Ex<|A<|A<|A<|We<|Ws<|Ws<|Wg<|M ?_
  refine Lf<|We ?_
  rcases condE h with ⟨d,h⟩ | ⟨d,h⟩
  ·refine CT d<|Ws<|Wg<|M<|A<|A<|A<|We ?_
   obtain rfl:=oi h
   refine WP.ret (Out.three rfl S rfl rfl rfl ?_)
   exact rfl
  refine CF d<|Wk<|Ws<|Wg<|M<|M<|M<|Lg<|A<|A<|A<|We ?_
  obtain rfl:=oi h
  refine WP.ret (Out.three rfl S rfl rfl rfl ?_)
  exact rfl
 refine CF c<|Wk<|Ws<|Ws<|Wg<|M<|Lc<|We ?_
 rcases condE h with ⟨f,h⟩ | ⟨f,h⟩
 ·refine CT f<|Ws<|Wg<|A<|A<|A<|We ?_
  obtain rfl:=oi h
  refine WP.ret (Out.three rfl S rfl rfl rfl ?_)
  exact rfl
 refine CF f<|Wk<|Ws<|Ws<|Wg<|M<|Ns<|M<|Lh<|M<|La<|We ?_
 rcases condE h with ⟨i,h⟩ | ⟨i,h⟩
 ·refine CT i<|Ws<|Wg<|A<|A<|A<|We ?_
  obtain rfl:=oi h
  refine WP.ret (Out.three rfl S rfl rfl rfl ?_)
  exact rfl
 refine CF i<|Wk<|Ws<|Wg<|M<|M<|M<|M<|Lg<|B h fun ad u h=>Jb u<|M<|M<|Lg<|A<|A<|A<|We ?_
 obtain rfl:=oi h
 refine WP.ret (Out.three rfl S rfl rfl rfl ?_)
 exact rfl
end Go.Proofs
