/- A part. -/
import Derived.Test.YtipgfplekgdoiaaGreatDoorEng38
import Derived.Test.YtipgfplekgdoiaaGreatDoorEng36
import Derived.Test.YtipgfplekgdoiaaGreatDoorGenK9
namespace Go.Proofs
set_option maxHeartbeats 4000000
set_option maxRecDepth 10000
open Go.Eng Go.Eng.Pure
set_option linter.unusedVariables false
theorem zGT {k:World} {i:Hp} (hw:Holds k i) (j:Str) (d:Str) {r:Int} (h:zCm j d=some r) :
  Ci Tryz.prog 261 [(str j),(str d)] k i r:=by
 refine CM 34 Tryz.func261 hw fun S=>?_
 refine Ws<|Wg<|A<|We<|Ws<|Ws<|Wg<|M<|Ns<|Le<|We ?_
 rcases condE h with ⟨l,h⟩ | ⟨l,h⟩
 ·refine CT l<|Ws<|Wg<|M ?_
  cases h
 refine CF l<|Wk<|Ws<|Ws<|Wg<|M<|Ns<|Le<|We ?_
 rcases condE h with ⟨o,h⟩ | ⟨o,h⟩
 ·refine CT o<|Ws<|Wg<|M<|M<|B h fun c3 ab h=>Ja ab<|W.countString (s:=j) (c:=c3) Tryz.func270 rfl rfl kr kr rfl rfl<|A<|We ?_
  exact WP.ret (Ri h S)
 refine CF o<|Wk<|Ws<|Wg<|A<|We<|B h fun ac ad h=>WP.cut (fun _ _=>False) ?_ (fun _ _ h=>h.elim)
 refine Wb ?_
 refine WP.loopM (zGR d) (fun s f w=>match s with | (p,u)=>∃ (v:Hp),f 0=(str p)∧f 1=(str d)∧f 5=(int u)∧St k i w v []) (j,0) ac ad ?_ ?_
 ·exact ⟨i,rfl,rfl,rfl,S⟩
 intro s f w hI aj b ae
 obtain ⟨p,u⟩:=s
 obtain ⟨v,x,q,z,S⟩:=hI
 refine Wb<|Ws<|Wg<|M' x<|M' q<|B b fun ak af b=>W.call S rfl (zGU S.holds p d af) ?_
 rintro al am ah an S rfl
 refine A<|We<|Ws<|Ws<|Wg<|M<|Le<|We ?_
 rcases condE b with ⟨t,b⟩ | ⟨t,b⟩
 ·refine CT t<|Ws<|Wg<|M' z<|A<|We ?_
  obtain rfl:=oi b
  obtain rfl:=ae
  exact WP.ret (Ri h S)
 refine CF t<|Wk<|Ws<|Wg<|M' z<|Lg<|A<|We<|Wg<|M' x<|M<|M' q ?_
 refine Ns<|Lg<|B b fun ao ai b=>Jc ai<|A<|We ?_
 obtain rfl:=oi b
 exact ⟨rfl,⟨ah,rfl,q,rfl,S⟩⟩
theorem zHN {o:World} {j:Hp} (hw:Holds o j) (c:Str) (k:Str) (q:Int) (az:Int) {r:(List Str)} (h:zEc c k q az=some r) :
  Con Tryz.prog 271 [(str c),(str k),(int q),(int az)] o j (fun H' v=>Sl H' v r):=by
 refine CM 66 Tryz.func271 hw fun S=>?_
 refine Ws<|Wg<|A<|We<|Ws<|Ws<|Wg<|M<|Le<|We ?_
 rcases condE h with ⟨ai,h⟩ | ⟨ai,h⟩
 ·refine CT ai<|Ws<|Wg<|A<|We ?_
  exact WP.ret (Rl h S Sl.nil)
 refine CF ai<|Wk<|Ws<|Ws<|Wg<|M<|Na<|We ?_
 rcases condE h with ⟨aj,h⟩ | ⟨aj,h⟩
 ·refine CT aj<|Ws<|Wg<|M<|M ?_
  cases h
 refine CF aj<|Wk<|Ws<|Ws<|Wg<|M<|La<|We<|B h fun ab l h=>WP.cut (fun f w=>∃ (H3:Hp),f 0=(str c)∧f 1=(str k)∧f 2=(int q)∧f 3=(int ab)∧St o j w H3 []) ?_ ?_
 ·rcases condE l with ⟨al,l⟩ | ⟨al,l⟩
  ·refine CT al<|Wg<|M<|M<|B l fun b9 bb l=>W.call S rfl (zGT S.holds c k bb) ?_
   rintro ca cb bc cc S rfl
   refine Lg<|A<|We ?_
   obtain rfl:=oi l
   exact ⟨bc,rfl,rfl,rfl,rfl,S⟩
  refine CF al<|Wk ?_
  obtain rfl:=oi l
  exact ⟨j,rfl,rfl,rfl,rfl,S⟩
 rintro f w ⟨H3,h4,h5,h6,h8,S⟩
 refine Ws<|Wg<|M' h8<|M' h4<|Ns<|Lg<|Ni<|A<|We<|Ws<|Wg<|M<|B h fun bg bh h=>W.makeSlice (α:=Str) (zv:=(str [])) (z:=[]) S el34 rfl rfl rfl zer9 rfl bh ?_
 intro p cd bi d bj bk S
 refine A<|We<|Ws<|Wg<|M<|Lh<|A<|We<|Ws<|Wg<|A<|We ?_
 refine Ws<|B h fun am bn h=>WP.cut (fun f w=>match am with | (a1,an,ac)=>∃ (ao:Hp) (ap:List Value),f 0=(str a1)∧f 9=(.slice (some ⟨p,0,none⟩) d d)∧f 10=(int an)∧Ms ao ap ac∧ac.length=d∧St o j w ao [.box p 9 ap]) ?_ ?_
 ·refine Wb ?_
  refine WP.loopM (zAv c k q ab) (fun s f w=>match s with | (aq,ar,ad)=>∃ (ae:Hp) (t:List Value),f 0=(str aq)∧f 1=(str k)∧f 2=(int q)∧f 3=(int (wr ((if (wr ((c.length:Int)+1))<ab then (wr ((c.length:Int)+1)) else ab) - 1)))∧f 9=(.slice (some ⟨p,0,none⟩) d d)∧f 10=(int ar)∧Ms ae t ad∧ad.length=d∧St o j w ae [.box p 9 t]) (c,0,bg) am bn ?_ ?_
  ·exact ⟨H3,bi,h4,h5,h6,rfl,rfl,rfl,bk,bj,S⟩
  intro s f w hI ce b a2
  obtain ⟨aq,ar,ad⟩:=s
  obtain ⟨ae,t,u,au,a3,a4,af,x,aa,ah,S⟩:=hI
  refine Ws<|Ws<|Wg<|M' x<|M' a4<|La<|We ?_
  rcases condE b with ⟨av,b⟩ | ⟨av,b⟩
  ·refine CT av<|Wk<|Wb<|Ws<|Wg<|M' u<|M' au<|B b fun cf bo b=>W.call S rfl (zGU S.holds aq k bo) ?_
   rintro cg ch a5 bp S rfl
   have aa:=Ms.mono aa bp
   refine A<|We<|Ws<|Ws<|Wg<|M<|La<|We ?_
   rcases condE b with ⟨aw,b⟩ | ⟨aw,b⟩
   ·refine CT aw<|Wx ?_
    obtain rfl:=oi b
    obtain rfl:=a2
    exact ⟨a5,t,u,af,x,aa,ah,S⟩
   refine CF aw<|Wk<|Ws<|Wg<|M' af<|M' x<|M' u<|M<|M' a3<|Lg<|B b fun ci bq b=>Jd bq<|B b fun cj br b=>?_
   refine WL.w (R.idxM (α:=Str) (xs:=ad) rfl ah rfl el34 br)<|B b fun ck a6 b=>?_
   refine W.storeM (α:=Str) (i:=0) (m:=ar) S aa rfl rfl rfl lay9 rfl rfl a6 ?_
   intro cl bs bt S
   have bu:=(zGD a6).1.trans ah
   refine We<|Ws<|Wg<|M' u<|M<|M' au<|Ns<|Lg<|B b fun cm bv b=>Jc bv<|A<|We<|Wg<|M' x<|Lg<|A<|We ?_
   obtain rfl:=oi b
   exact ⟨rfl,⟨a5,bs,rfl,au,a3,a4,af,rfl,bt,bu,S⟩⟩
  refine CF av<|Wx ?_
  obtain rfl:=oi b
  obtain rfl:=a2
  exact ⟨ae,t,u,af,x,aa,ah,S⟩
 intro f w hM
 obtain ⟨a1,an,ac⟩:=am
 obtain ⟨ao,ap,bw,a7,a8,bx,a9,S⟩:=hM
 refine Ws<|Wg<|M' a7<|M' a8<|M' bw<|B h fun cn bz h=>?_
 refine WL.w (R.idxM (α:=Str) (xs:=ac) rfl a9 rfl el34 bz)<|B h fun b0 ba h=>?_
 refine W.storeM (α:=Str) (i:=0) (m:=an) S bx rfl rfl rfl lay9 rfl rfl ba ?_
 intro co b1 ax S
 have b2:=(zGD ba).1.trans a9
 refine We<|Ws<|Wg<|M' a7<|M' a8<|Lg ?_
 obtain ⟨ay,b3,b4,_,S⟩:=S.settle (i:=0) rfl
 replace S:St o j _ ay []:=S
 have b5:At ay ⟨p,0,none⟩ b1:=⟨_,_,rfl,b4,[],by simp⟩
 have ax:=Ms.mono ax b3
 have b6:Sl ay (.slice (some ⟨p,0,none⟩) d d) b0:=Ms.sl ax b2 b5
 refine B h fun cp b7 h=>W.subHi (α:=Str) b6 rfl rfl el34 b7 ?_
 intro cq b8
 refine A<|We ?_
 exact WP.ret (Rl h S b8)
theorem zIV {d:World} {f:Hp} (hw:Holds d f) (b:Str) (c:Str) {r:(List Str)} (h:zEo b c=some r) :
  Con Tryz.prog 266 [(str b),(str c)] d f (fun H' v=>Sl H' v r):=by
 refine CM 8 Tryz.func266 hw fun S=>?_
 refine Ws<|Wg<|A<|We<|Ws<|Wg<|M<|M<|B h fun k i h=>W.call S rfl (zHN S.holds b c 0 (-1) i) ?_
 rintro l o p q S j
 refine A<|We ?_
 exact WP.ret (Rl h S j)
theorem zHa {u:World} {v:Hp} (hw:Holds u v) (q:Str) (k:Bool) {r:Bool} (h:zDw q k=some r) :
  Cb Tryz.prog 267 [(str q),(boo k)] u v r:=by
 refine CM 41 Tryz.func267 hw fun S=>?_
 refine Ws<|Wg<|A<|We<|Ws<|Ws<|Wg<|M<|B h fun t ao h=>W.call S rfl (zAe S.holds q ao) ?_
 rintro v2 w3 H4 ax S rfl
 refine W.bytes (s:=t) S rfl Tryz.underlying9 Tryz.underlying128 Tryz.underlying5 ?_
 intro b6 c7 w8 az S
 refine Nv<|M<|We<|B h fun z ar h=>WP.cut (fun f w=>match z with | .inl _=>∃ (ae:Hp),f 0=(str q)∧St u v w ae [] | .inr _=>False) ?_ ?_
 ·refine Wb ?_
  refine WP.loopM (zBi k t) (fun s f w=>match s with | af=>∃ (x:Hp),f 0=(str q)∧f 1=(boo k)∧f 9=(.slice (some ⟨b6,0,none⟩) t.length c7)∧f 10=(int (t.length:Int))∧f 11=(int af)∧St u v w x [.box b6 5 (t.map byt)]) 0 z ar ?_ ?_
  ·exact ⟨H4,rfl,rfl,rfl,rfl,rfl,S⟩
  intro af f w hI a0 d ah
  obtain ⟨x,ai,aj,ak,al,aa,S⟩:=hI
  refine Ws<|Wg<|La' aa al<|We<|Ws ?_
  rcases condE d with ⟨ab,d⟩ | ⟨ab,d⟩
  ·refine CT ab<|Wk<|Ws<|Wb<|Ws<|Wg<|B d fun a1 am d=>?_
   have a2:=(zAn am).2
   refine WL.w (R.idxB ak aa el128 (zAn am).2)<|B d fun c au d=>?_
   refine WL.w (R.loadB (i:=0) S rfl rfl lay5 (zAn au).1)<|A<|We<|Ws<|Wg<|M<|Ma c 97<|M ?_
   refine WL.grp 3 [18,19] 20 (boo ((decide (c<97))||(decide (122<c)))) ?_ ?_
   ·rcases boolE (decide (c<97)) with l | l
    ·refine Gn l<|Gn l<|Pt l ?_
     exact We ⟨(orT l),ag,rfl⟩
    refine Gy l<|M<|Gy l<|Mc c 122<|Pf l ?_
    exact We ⟨(orF l),ag,rfl⟩
   intro us
   refine M ?_
   refine WL.grp 11 [22,23,24,25,26,27,28,29,30,31] 32 (boo (((decide (c<97))||(decide (122<c)))&&(((!k)||(decide (c<48)))||(decide (57<c))))) ?_ ?_
   ·rcases boolE ((decide (c<97))||(decide (122<c))) with b | b
    ·refine Gy b<|M' aj<|Gy b<|No<|Gy b<|M ?_
     refine WL.grp 3 [25,26] 27 (boo ((!k)||(decide (c<48)))) ?_ ?_
     ·rcases boolE (!k) with o | o
      ·refine Gn o<|Gn o<|Gy b<|Pt o ?_
       exact We ⟨(orT o),ag,rfl⟩
      refine Gy o<|M<|Gy o<|Ma c 48<|Gy b<|Pf o ?_
      exact We ⟨(orF o),ag,rfl⟩
     intro us
     refine Gy b<|M ?_
     refine WL.grp 3 [29,30] 31 (boo (((!k)||(decide (c<48)))||(decide (57<c)))) ?_ ?_
     ·rcases boolE ((!k)||(decide (c<48))) with p | p
      ·refine Gn p<|Gn p<|Gy b<|Pt p ?_
       exact We ⟨(orT p),ag,rfl⟩
      refine Gy p<|M<|Gy p<|Mc c 57<|Gy b<|Pf p ?_
      exact We ⟨(orF p),ag,rfl⟩
     intro us
     refine Pt b ?_
     exact We ⟨(andT b),ag,rfl⟩
    refine Gn b<|Gn b<|Gn b<|WL.gund rfl rfl<|WL.gund rfl rfl<|Gn b<|Gn b<|WL.gund rfl rfl<|WL.gund rfl rfl<|Gn b<|Pf b ?_
    exact We ⟨(andF b),ag,rfl⟩
   intro us
   refine We ?_
   rcases condE d with ⟨ac,d⟩ | ⟨ac,d⟩
   ·refine CT ac<|Ws<|Wg<|A<|We ?_
    obtain rfl:=oi d
    obtain rfl:=ah
    exact WP.ret (Rb h S)
   refine CF ac<|Wk<|Wg<|Lg' aa rfl<|M<|We ?_
   obtain rfl:=oi d
   exact ⟨rfl,⟨x,ai,aj,ak,al,rfl,S⟩⟩
  refine CF ab<|Wx ?_
  obtain rfl:=oi d
  obtain rfl:=ah
  exact ⟨x,ai,(S.pk [])⟩
 intro f w hM
 rcases z with _ | e
 ·obtain ⟨ae,an,S⟩:=hM
  refine Ws<|Wg<|M' an<|Nb<|M ?_
  refine WL.grp 4 [37,38,39] 40 (boo ((q !=[])&&(decide ((q.length:Int)≤8)))) ?_ ?_
  ·rcases boolE (q !=[]) with j | j
   ·refine Gy j<|M' an<|Gy j<|Ns<|Gy j<|Lb<|Pt j ?_
    exact We ⟨(andT j),ag,rfl⟩
   refine Gn j<|Gn j<|Gn j<|Pf j ?_
   exact We ⟨(andF j),ag,rfl⟩
  intro us
  refine A<|We ?_
  exact WP.ret (Rb h S)
 exact hM.elim
theorem zFD {d:World} {i:Hp} (hw:Holds d i) (l:Str) {r:Bool} (h:zDQ l=some r) :
  Cb Tryz.prog 258 [(str l)] d i r:=by
 refine CM 19 Tryz.func258 hw fun S=>?_
 refine Ws<|Wg<|A<|We<|Ws<|Ws<|Wg<|M<|B h fun o ac h=>W.call S rfl (zIV S.holds l [45] ac) ?_
 rintro v w3 H4 an S c
 refine Nq c<|M<|We<|B h fun p ae h=>WP.cut (fun f w=>match p with | .inl _=>∃ (x:Hp),St d i w x [] | .inr _=>False) ?_ ?_
 ·refine Wb ?_
  refine WP.loopM (zCe o) (fun s f w=>match s with | q=>∃ (j:Hp),f 6=v∧f 7=(int (o.length:Int))∧f 8=(int q)∧Sl j v o∧St d i w j []) 0 p ae ?_ ?_
  ·exact ⟨H4,rfl,rfl,rfl,c,S⟩
  intro q f w hI ao b z
  obtain ⟨j,h8,h9,k,c,S⟩:=hI
  refine Ws<|Wg<|La' k h9<|We<|Ws ?_
  rcases condE b with ⟨t,b⟩ | ⟨t,b⟩
  ·refine CT t<|Wk<|Ws<|Wb<|Ws<|Wg<|M' k<|B b fun af ah b=>W.idx (α:=Str) c h8 k el34 ah ?_
   rintro ap _ ai rfl
   refine Lq S ai<|A<|A<|We<|Ws<|Wg<|M<|M<|Lc<|B b fun aq aj b=>W.call S rfl (zHa S.holds af (decide (0<q)) aj) ?_
   rintro ar au ak al S rfl
   have c:=c.up al
   refine No<|We ?_
   rcases condE b with ⟨u,b⟩ | ⟨u,b⟩
   ·refine CT u<|Ws<|Wg<|A<|We ?_
    obtain rfl:=oi b
    obtain rfl:=z
    exact WP.ret (Rb h S)
   refine CF u<|Wk<|Wg<|Lg' k rfl<|M<|We ?_
   obtain rfl:=oi b
   exact ⟨rfl,⟨ak,h8,h9,rfl,c,S⟩⟩
  refine CF t<|Wx ?_
  obtain rfl:=oi b
  obtain rfl:=z
  exact ⟨j,S⟩
 intro f w hM
 rcases p with _ | e
 ·obtain ⟨x,S⟩:=hM
  refine Ws<|Wg<|A<|We ?_
  exact WP.ret (Rb h S)
 exact hM.elim
theorem zGj {c:World} {d:Hp} (hw:Holds c d) (f:Unit) (b:Str) {r:(Str×Bool)} (h:zCQ f b=some r) :
  Con Tryz.prog 291 [(agg []),(str b)] c d (fun H' v=>v=(.tuple ⟨[(str r.1),(boo r.2)]⟩)):=by
 refine CM 10 Tryz.func291 hw fun S=>?_
 refine Ws<|Wg ?_
 refine W.box [] S rfl rfl ?_
 intro k l S
 refine A<|A<|We<|Ws<|Wg<|M<|B h fun o i h=>W.call S rfl (zAe S.holds b i) ?_
 rintro p q t u S rfl
 refine M<|B h fun x j h=>W.call S rfl (zFD S.holds b j) ?_
 rintro z aa ab ac S rfl
 refine A<|A<|We ?_
 obtain rfl:=oi h
 refine WP.ret (Out.two rfl S rfl rfl ?_)
 exact rfl
theorem zBT {c:World} {d:Hp} (hw:Holds c d) (z:Int) (o:Str) {r:Str} (h:zA2 z o=some r) :
  Cs Tryz.prog 247 [(int z),(str o)] c d r:=by
 refine CM 18 Tryz.func247 hw fun S=>?_
 refine Ws<|Wg<|A<|We<|Ws<|Wg<|M<|B h fun k ai h=>W.call S rfl (zAe S.holds o ai) ?_
 rintro v2 w3 H4 ap S rfl
 refine A<|We<|Ws<|Ws<|Wg<|M<|Lf<|We ?_
 rcases condE h with ⟨p,h⟩ | ⟨p,h⟩
 ·refine CT p<|Ws<|Wg<|M<|A<|We ?_
  exact WP.ret (Rs h S)
 refine CF p<|Wk<|Ws<|Ws<|Wg<|M<|We<|B h fun ab b h=>WP.cut (fun f w=>match ab with | .inl _=>∃ (H7:Hp),f 1=(str k)∧St c d w H7 [] | .inr _=>False) ?_ ?_
 ·refine Wb<|Ws<|Ws<|Wg<|Na<|A<|We<|B b fun aj i b=>WP.cut (fun f w=>∃ (l:Hp),f 1=(str k)∧f 10=(str k)∧f 11=(boo aj)∧St c d w l []) ?_ ?_
  ·rcases condE i with ⟨q,i⟩ | ⟨q,i⟩
   ·refine CT q<|Wk ?_
    obtain rfl:=oi i
    exact ⟨H4,rfl,rfl,rfl,S⟩
   refine CF q<|Wg<|Na<|A<|We ?_
   obtain rfl:=oi i
   exact ⟨H4,rfl,rfl,rfl,S⟩
  rintro f w ⟨l,ad,ae,af,S⟩
  rcases condE b with ⟨t,b⟩ | ⟨t,b⟩
  ·refine WP.condT af t<|Ws<|Wg<|A<|We ?_
   obtain rfl:=oi b
   exact WP.ret (Rs h S)
  refine WP.condF af t<|Ws<|Ws<|Wg<|Na' ae rfl<|A<|We<|B b fun ak j b=>WP.cut (fun f w=>∃ (u:Hp),f 1=(str k)∧f 14=(boo ak)∧St c d w u []) ?_ ?_
  ·rcases condE j with ⟨v,j⟩ | ⟨v,j⟩
   ·refine CT v<|Wk ?_
    obtain rfl:=oi j
    exact ⟨l,ad,rfl,S⟩
   refine CF v<|Wg<|Na' ae rfl<|A<|We ?_
   obtain rfl:=oi j
   exact ⟨l,ad,rfl,S⟩
  rintro f w ⟨u,al,ah,S⟩
  rcases condE b with ⟨x,b⟩ | ⟨x,b⟩
  ·refine WP.condT ah x<|Ws<|Wg<|A<|We ?_
   obtain rfl:=oi b
   exact WP.ret (Rs h S)
  refine WP.condF ah x<|Wk ?_
  obtain rfl:=oi b
  exact ⟨u,al,S⟩
 intro f w hM
 rcases ab with _ | e
 ·obtain ⟨H7,h8,S⟩:=hM
  refine Ws<|Wg<|M' h8<|A<|We ?_
  exact WP.ret (Rs h S)
 exact hM.elim
theorem zGV {f:World} {i:Hp} (hw:Holds f i) (d:Int) (c:Str) {r:(Str×Bool)} (h:zB8 d c=some r) :
  Con Tryz.prog 292 [(int d),(str c)] f i (fun H' v=>v=(.tuple ⟨[(str r.1),(boo r.2)]⟩)):=by
 refine CM 15 Tryz.func292 hw fun S=>?_
 refine Ws<|Wg<|A<|A<|We<|Ws<|Wg<|M<|M<|B h fun o k h=>W.call S rfl (zBT S.holds d c k) ?_
 rintro p q t u S rfl
 refine M<|B h fun j l h=>W.call S rfl (zAx S.holds c l) ?_
 rintro x z H9 ab S rfl
 refine M ?_
 refine WL.grp 3 [12,13] 14 (boo (j&&(c !=[42]))) ?_ ?_
 ·rcases boolE j with b | b
  ·refine Gy b<|M<|Gy b<|Nb<|Pt b ?_
   exact We ⟨(andT b),ag,rfl⟩
  refine Gn b<|Gn b<|Pf b ?_
  exact We ⟨(andF b),ag,rfl⟩
 intro us
 refine A<|A<|We ?_
 obtain rfl:=oi h
 refine WP.ret (Out.two rfl S rfl rfl ?_)
 exact rfl
theorem zGW {l:World} {k:Hp} (hw:Holds l k) (t:Unit) (d:Str) {r:(Str×Bool)} (h:zCA t d=some r) :
  Con Tryz.prog 293 [(agg []),(str d)] l k (fun H' v=>v=(.tuple ⟨[(str r.1),(boo r.2)]⟩)):=by
 refine CM 25 Tryz.func293 hw fun S=>?_
 refine Ws<|Wg ?_
 refine W.box [] S rfl rfl ?_
 intro o w2 S
 refine A<|A<|We<|Ws<|Wg<|M<|M<|Ns<|Ld<|M ?_
 refine WL.grp 4 [11,12,13] 14 (boo ((decide (1≤(d.length:Int)))&&(decide ((d.length:Int)≤100)))) ?_ ?_
 ·rcases boolE (decide (1≤(d.length:Int))) with c | c
  ·refine Gy c<|M<|Gy c<|Ns<|Gy c<|Lb<|Pt c ?_
   exact We ⟨(andT c),ag,rfl⟩
  refine Gn c<|Gn c<|Gn c<|Pf c ?_
  exact We ⟨(andF c),ag,rfl⟩
 intro us
 refine M<|B h fun p i h=>WL.grpw 3 [16,17] 18 (boo p) (fun w=>∃ H':Hp,k.le H'∧St l k w H' [.box o 155 []]) ?_ ?_
 ·rcases boolE ((decide (1≤(d.length:Int)))&&(decide ((d.length:Int)≤100))) with f | f
  ·replace i:=condT i f
   refine Gy f<|M<|Gy f<|B i fun r7 u i=>W.call S rfl (zHt S.holds d u) ?_
   rintro v8 w9 x z S rfl
   refine Pt f ?_
   exact We ⟨(ob i),ag,⟨x,z,S⟩⟩
  replace i:=condF i f
  refine Gn f<|Gn f<|Pf f ?_
  exact We ⟨(ob i),ag,⟨k,lr,S⟩⟩
 intro us aj ⟨q,ak,S⟩
 refine M<|B h fun aa j h=>WL.grpw 5 [20,21,22,23] 24 (boo aa) (fun w=>∃ H':Hp,q.le H'∧St l k w H' [.box o 155 []]) ?_ ?_
 ·rcases boolE p with b | b
  ·replace j:=condT j b
   refine Gy b<|M<|Gy b<|B j fun al ab j=>W.call S rfl (zEm S.holds d ab) ?_
   rintro am an ac ad S rfl
   refine Gy b<|M<|Gy b<|Na<|Pt b ?_
   exact We ⟨(ob j),ag,⟨ac,ad,S⟩⟩
  replace j:=condF j b
  refine Gn b<|Gn b<|Gn b<|Gn b<|Pf b ?_
  exact We ⟨(ob j),ag,⟨q,lr,S⟩⟩
 intro us ao ⟨ap,aq,S⟩
 refine A<|A<|We ?_
 obtain rfl:=oi h
 refine WP.ret (Out.two rfl S rfl rfl ?_)
 exact rfl
theorem zB9 {b:World} {c:Hp} (hw:Holds b c) (x:Gvariants_domain) (p0:Str) {r:(Str×Bool)} (h:zBL x p0=some r) :
  ConI Tryz.prog "variantproxy/variants.form" (Tryz.vvariants_domain x) [(str p0)] b c (fun H' v=>v=(.tuple ⟨[(str r.1),(boo r.2)]⟩)):=by
 cases x with
 | media=>exact ConI.mk (fun w=>by kernel_rfl) (zGX hw () p0 h)
 | tags=>exact ConI.mk (fun w=>by kernel_rfl) (zGj hw () p0 h)
 | words n=>exact ConI.mk (fun w=>by kernel_rfl) (zGV hw n p0 h)
 | texts=>exact ConI.mk (fun w=>by kernel_rfl) (zGW hw () p0 h)
theorem zIH {q:World} {o:Hp} (hw:Holds q o) (d:GAxis) {p:Value} (j:Sl o p d.fValues) {r:Bool} (h:zED d=some r) :
  Cb Tryz.prog 95 [(agg [(str d.fName),p])] q o r:=by
 refine CM 46 Tryz.func95 hw fun S=>?_
 refine Ws<|Wg ?_
 refine W.box [(str d.fName),p] S rfl rfl ?_
 intro b1 w2 S
 refine A<|We<|Ws<|Ws<|Wg<|Fb ?_
 refine Lo 0 S<|Nq j<|La<|M ?_
 refine WL.grp 5 [14,15,16,17] 18 (boo ((decide ((d.fValues.length:Int)<1))||(decide (16<(d.fValues.length:Int))))) ?_ ?_
 ·rcases boolE (decide ((d.fValues.length:Int)<1)) with c | c
  ·refine Gn c<|Gn c<|Gn c<|Gn c<|Pt c ?_
   exact We ⟨(orT c),ag,rfl⟩
  refine Gy c<|Fb<|Gy c ?_
  refine Lo 0 S<|Gy c<|Nq j<|Gy c<|Lc<|Pf c ?_
  exact We ⟨(orF c),ag,rfl⟩
 intro us
 refine We ?_
 rcases condE h with ⟨x,h⟩ | ⟨x,h⟩
 ·refine CT x<|Ws<|Wg<|A<|We ?_
  exact WP.ret (Rb h S)
 refine CF x<|Wk<|Ws<|Wg<|Fb ?_
 refine Lo 0 S<|B h fun r6 ao h=>W.call S rfl (zEi S.holds d.fName ao) ?_
 rintro v7 w8 H9 aq S rfl
 have j:=j.up aq
 refine A<|We<|Ws<|Wg<|W.makeMap S ?_
 intro ah a7 S
 refine A<|We<|Ws<|Ws<|Wg<|Fb ?_
 refine Lo 1 S<|Nq j<|M<|We<|B h fun ab ar h=>WP.cut (fun f w=>match ab with | .inl _=>∃ (ai:Hp),St q o w ai [] | .inr _=>False) ?_ ?_
 ·refine Wb ?_
  refine WP.loopM (zA7 d r6) (fun s f w=>match s with | (aj,t)=>∃ (u:Hp),f 3=(Tryz.vvariants_domain r6)∧f 4=(mapv ah)∧f 24=p∧f 25=(int (d.fValues.length:Int))∧f 26=(int aj)∧Sl u p d.fValues∧St q o w u [.mp ah (encm boo t)]) (0,([]:List (Str×Bool))) ab ar ?_ ?_
  ·exact ⟨H9,rfl,rfl,rfl,rfl,rfl,j,(S.pk [0])⟩
  intro s f w hI a8 b ak
  obtain ⟨aj,t⟩:=s
  obtain ⟨u,al,ac,am,an,ad,j,S⟩:=hI
  refine Ws<|Wg<|La' ad an<|We<|Ws ?_
  rcases condE b with ⟨ae,b⟩ | ⟨ae,b⟩
  ·refine CT ae<|Wk<|Ws<|Wb<|Ws<|Wg<|B b fun au av b=>W.idx (α:=Str) j am ad el34 av ?_
   rintro a9 _ aw rfl
   refine Lq S aw<|A<|We<|Ws<|Wg<|M' al<|M<|B b fun ax ay b=>W.invoke S rfl rfl (zB9 S.holds r6 au ay) ?_
   rintro ba bb az a0 S rfl
   have j:=j.up a0
   refine M ?_
   refine Ex ?_
   refine Ex<|A<|A<|We<|Ws<|Ws<|Wg<|M<|No<|M<|B b fun a1 l b=>WL.grp 4 [39,40,41] 42 (boo a1) ?_ ?_
   ·rcases boolE (!ax.2) with k | k
    ·replace l:=condT l k
     refine Gn k<|Gn k<|Gn k<|Pt k ?_
     exact We ⟨(ob l),ag,rfl⟩
    replace l:=condF l k
    refine Gy k<|M' ac<|Gy k<|M<|Gy k<|B l fun g38 a2 l=>?_
    refine WL.w (v:=boo g38.1) (R.ofEq (R.lookup1 boo (i:=0) (m:=t) (z:=false) S rfl rfl rfl Tryz.underlying107 Tryz.underlying9 mz4 rfl) (by rw [oi a2]))<|Pf k ?_
    exact We ⟨(ob l),ag,rfl⟩
   intro us
   refine We ?_
   rcases condE b with ⟨af,b⟩ | ⟨af,b⟩
   ·refine CT af<|Ws<|Wg<|A<|We ?_
    obtain rfl:=oi b
    obtain rfl:=ak
    exact WP.ret (Rb h S)
   refine CF af<|Wk<|Wg<|M' ac<|M<|W.mapUpdate boo (i:=0) (m:=t) true S rfl rfl rfl rfl rfl Tryz.underlying107 Tryz.underlying9 ?_
   intro bc S
   refine We<|Wg<|Lg' ad rfl<|M<|We ?_
   obtain rfl:=oi b
   exact ⟨rfl,⟨az,al,ac,am,an,rfl,j,S⟩⟩
  refine CF ae<|Wx ?_
  obtain rfl:=oi b
  obtain rfl:=ak
  exact ⟨u,(S.pk [])⟩
 intro f w hM
 rcases ab with _ | e
 ·obtain ⟨ai,S⟩:=hM
  refine Ws<|Wg<|A<|We ?_
  exact WP.ret (Rb h S)
 exact hM.elim
theorem zD0 {w0:World} {u:Hp} (hw:Holds w0 u) (k:(List GAxis)) {o:Value} (d:Sl u o k) {r:Bool} (h:zCK k=some r) :
  Cb Tryz.prog 60 [o] w0 u r:=by
 refine CM 54 Tryz.func60 hw fun S=>?_
 refine Ws<|Wg<|A<|We<|Ws<|Ws<|Wg<|M<|Nq d<|La<|M ?_
 refine WL.grp 4 [11,12,13] 14 (boo ((decide ((k.length:Int)<1))||(decide (4<(k.length:Int))))) ?_ ?_
 ·rcases boolE (decide ((k.length:Int)<1)) with p | p
  ·refine Gn p<|Gn p<|Gn p<|Pt p ?_
   exact We ⟨(orT p),ag,rfl⟩
  refine Gy p<|M<|Gy p<|Nq d<|Gy p<|Lc<|Pf p ?_
  exact We ⟨(orF p),ag,rfl⟩
 intro us
 refine We ?_
 rcases condE h with ⟨ak,h⟩ | ⟨ak,h⟩
 ·refine CT ak<|Ws<|Wg<|A<|We ?_
  exact WP.ret (Rb h S)
 refine CF ak<|Wk<|Ws<|Ws<|Wg<|M<|Nq d<|M<|We<|B h fun al bf h=>WP.cut (fun f w=>match al with | .inl _=>∃ (ay:Hp),St w0 u w ay [] | .inr _=>False) ?_ ?_
 ·refine Wb ?_
  refine WP.loopM (zBu k) (fun s f w=>match s with | af=>∃ (H4:Hp),f 0=o∧f 15=o∧f 16=(int (k.length:Int))∧f 17=(int af)∧Sl H4 o k∧St w0 u w H4 []) 0 al bf ?_ ?_
  ·exact ⟨u,rfl,rfl,rfl,rfl,d,S⟩
  intro af f w hI b2 b am
  obtain ⟨H4,h5,h6,h7,h9,d,S⟩:=hI
  refine Ws<|Wg<|La' h9 h7<|We<|Ws ?_
  rcases condE b with ⟨an,b⟩ | ⟨an,b⟩
  ·refine CT an<|Wk<|Ws<|Wb<|Ws<|Wg<|M' h9<|B b fun j bg b=>W.idx (α:=GAxis) d h6 h9 el22 bg ?_
   rintro b3 _ bh ⟨ad,rfl,aa⟩
   refine WL.w (R.loadHN (vs:=[(str j.fName),ad]) S rfl bh lay68 rfl rfl) ?_
   refine W.alloc [(str []),(.slice none 0 0)] S zer68 ?_
   intro a2 b4 S
   refine A ?_
   refine W.store (i:=0) [(str j.fName),ad] S rfl rfl rfl lay68 rfl (AllOne.all (l:=[(str j.fName),ad]) (.cons rfl (.cons (Sl.oneC aa) .nil))) (Nat.le_of_ble_eq_true rfl) rfl ?_
   intro b5 S
   refine We<|Ws<|Ws<|WP.quiet S kr kr<|QFb ?_
   refine QB 0 (str j.fName)<|B b fun a3 bi b=>WQ.call (v:=boo a3) rfl (fun w H' hq S=>zAx S.holds j.fName bi)<|QNo<|QM<|B b fun a4 x b=>WQ.grp 7 [27,28,29,30,31,32] 33 (boo a4) ?_ ?_
   ·rcases boolE (!a3) with c | c
    ·replace x:=condT x c
     refine QGn c<|QGn c<|QGn c<|QGn c<|QGn c<|QGn c<|QPt c ?_
     exact WQ.nil ⟨(ob x),ag⟩
    replace x:=condF x c
    refine QGy c<|QFb<|QGy c ?_
    refine QB 0 (str j.fName)<|QGy c<|B x fun bj bk x=>WQ.call (v:=str bj) rfl (fun w H' hq S=>zAe S.holds j.fName bk)<|QGy c<|QFb<|QGy c ?_
    refine QB 0 (str j.fName)<|QGy c<|QNb<|QPf c ?_
    exact WQ.nil ⟨(ob x),ag⟩
   intro us
   refine QM<|B b fun bn z b=>WQ.grp 4 [35,36,37] 38 (boo bn) ?_ ?_
   ·rcases boolE a4 with q | q
    ·replace z:=condT z q
     refine QGn q<|QGn q<|QGn q<|QPt q ?_
     exact WQ.nil ⟨(ob z),ag⟩
    replace z:=condF z q
    refine QGy q ?_
    refine WQ.val (fun w hw=>by obtain ⟨_,hq,S⟩:=hw; exact (R.loadBN (i:=0) (vs:=[(str j.fName),ad]) S rfl rfl lay68 rfl rfl))<|QGy q<|B z fun bo bp z=>WQ.call (v:=boo bo) rfl (fun w H' hq S=>zIH S.holds j (aa.up hq) bp)<|QGy q<|QNo<|QPf q ?_
    exact WQ.nil ⟨(ob z),ag⟩
   intro us
   refine WQ.nil ?_
   intro b6 bq br S
   have ⟨d,aa⟩:=U2 br d aa
   rcases condE b with ⟨ao,b⟩ | ⟨ao,b⟩
   ·refine CT ao<|Ws<|Wg<|A<|We ?_
    obtain rfl:=oi b
    obtain rfl:=am
    exact WP.ret (Rb h S)
   refine CF ao<|Wk<|Ws<|Wg<|M' h5<|M<|B b fun ap bs b=>W.subHi (α:=GAxis) d rfl rfl el22 bs ?_
   intro a5 ae
   refine Nq ae<|M<|We<|B b fun aq bt b=>WP.cut (fun f w=>match aq with | .inl _=>∃ (aj:Hp),f 0=o∧f 15=o∧f 16=(int (k.length:Int))∧f 17=(int af)∧Sl aj o k∧St w0 u w aj [] | .inr _=>False) ?_ ?_
   ·refine Wb ?_
    refine WP.loopM (zBs j ap) (fun s f w=>match s with | a6=>∃ (ab:Hp),f 0=o∧f 4=(ptr a2 0)∧f 15=o∧f 16=(int (k.length:Int))∧f 17=(int af)∧f 41=a5∧f 42=(int (ap.length:Int))∧f 43=(int a6)∧Sl ab o k∧Sl ab a5 ap∧Sl ab ad j.fValues∧St w0 u w ab [.box a2 68 [(str j.fName),ad]]) 0 aq bt ?_ ?_
    ·exact ⟨bq,h5,rfl,h6,h7,h9,rfl,rfl,rfl,d,ae,aa,S⟩
    intro a6 f w hI b7 t a7
    obtain ⟨ab,a8,a9,ba,bb,bc,bd,be,ar,d,ae,aa,S⟩:=hI
    refine Ws<|Wg<|La' ar be<|We<|Ws ?_
    rcases condE t with ⟨au,t⟩ | ⟨au,t⟩
    ·refine CT au<|Wk<|Ws<|Wb<|Ws<|Wg<|B t fun av bu t=>W.idx (α:=GAxis) ae bd ar el22 bu ?_
     rintro b8 _ bv ⟨aw,rfl,bw⟩
     refine WL.w (R.loadHN (vs:=[(str av.fName),aw]) S rfl bv lay68 rfl rfl) ?_
     refine W.alloc [(str []),(.slice none 0 0)] S zer68 ?_
     intro b9 ca S
     refine W.store (i:=0) [(str av.fName),aw] S rfl rfl rfl lay68 rfl (AllOne.all (l:=[(str av.fName),aw]) (.cons rfl (.cons (Sl.oneC bw) .nil))) (Nat.le_of_ble_eq_true rfl) rfl ?_
     intro cb S
     refine We<|Ws<|Wg<|Fb' a9 ?_
     refine Lo 1 S<|Fb ?_
     refine Lo 0 S<|Na<|We ?_
     rcases condE t with ⟨ax,t⟩ | ⟨ax,t⟩
     ·refine CT ax<|Ws<|Wg<|A<|We ?_
      obtain rfl:=oi t
      obtain rfl:=a7
      obtain rfl:=oi b
      obtain rfl:=am
      exact WP.ret (Rb h S)
     refine CF ax<|Wk<|Wg<|Lg' ar rfl<|M<|We ?_
     obtain rfl:=oi t
     exact ⟨rfl,⟨ab,a8,a9,ba,bb,bc,bd,be,rfl,d,ae,aa,(S.pk [1])⟩⟩
    refine CF au<|Wx ?_
    obtain rfl:=oi t
    obtain rfl:=a7
    exact ⟨ab,a8,ba,bb,bc,d,(S.pk [])⟩
   intro f w hM
   rcases aq with _ | e
   ·obtain ⟨aj,bx,bz,b0,b1,d,S⟩:=hM
    refine Wg<|Lg' b1 rfl<|M<|We ?_
    obtain rfl:=oi b
    exact ⟨rfl,⟨aj,bx,bz,b0,rfl,d,S⟩⟩
   exact hM.elim
  refine CF an<|Wx ?_
  obtain rfl:=oi b
  obtain rfl:=am
  exact ⟨H4,S⟩
 intro f w hM
 rcases al with _ | e
 ·obtain ⟨ay,S⟩:=hM
  refine Ws<|Wg<|A<|We ?_
  exact WP.ret (Rb h S)
 exact hM.elim
theorem zI6 {x:World} {i:Hp} (hw:Holds x i) (b:GEntry) {q:Value} {k:Value} {t:Value} {u:Value} (o:Sl i q b.fKeys) (j:Sl i k b.fVary) (p:Sl i t b.fSnapshot) (v:Sl i u b.fFields) {r:Bool} (h:zFU b=some r) :
  Cb Tryz.prog 61 [(agg [q,k,t,(str b.fReason),u,(str b.fBody),(int b.fRequested),(int b.fReceived)])] x i r:=by
 refine CM 36 Tryz.func61 hw fun S=>?_
 refine Ws<|Wg ?_
 refine W.box [q,k,t,(str b.fReason),u,(str b.fBody),(int b.fRequested),(int b.fReceived)] S rfl rfl ?_
 intro b1 w2 S
 refine A<|We<|Ws<|Ws<|Wg<|Fb ?_
 refine Lo 0 S<|Nq o<|Lc<|M ?_
 refine WL.grp 8 [9,10,11,12,13,14,15] 16 (boo ((decide (0<(b.fKeys.length:Int)))||((b.fVary.length:Int) !=(b.fSnapshot.length:Int)))) ?_ ?_
 ·rcases boolE (decide (0<(b.fKeys.length:Int))) with c | c
  ·refine Gn c<|Gn c<|Gn c<|Gn c<|Gn c<|Gn c<|Gn c<|Pt c ?_
   exact We ⟨(orT c),ag,rfl⟩
  refine Gy c<|Fb<|Gy c ?_
  refine Lo 0 S<|Gy c<|Nq j<|Gy c<|Fb<|Gy c ?_
  refine Lo 0 S<|Gy c<|Nq p ?_
  refine Gy c<|Lf<|Pf c ?_
  exact We ⟨(orF c),ag,rfl⟩
 intro us
 refine We ?_
 rcases condE h with ⟨ab,h⟩ | ⟨ab,h⟩
 ·refine CT ab<|Ws<|Wg<|A<|We ?_
  exact WP.ret (Rb h S)
 refine CF ab<|Wk<|Ws<|Ws<|Wg<|A<|We<|B h fun ac ak h=>WP.cut (fun f w=>match ac with | .inl _=>∃ (ah:Hp),St x i w ah [] | .inr _=>False) ?_ ?_
 ·refine Wb ?_
  refine WP.loopM (zCh b) (fun s f w=>match s with | ai=>∃ (l:Hp),f 1=(ptr b1 0)∧f 3=(int ai)∧Sl l q b.fKeys∧Sl l k b.fVary∧Sl l t b.fSnapshot∧Sl l u b.fFields∧St x i w l [.box b1 36 [q,k,t,(str b.fReason),u,(str b.fBody),(int b.fRequested),(int b.fReceived)]]) 1 ac ak ?_ ?_
  ·exact ⟨i,rfl,rfl,o,j,p,v,S⟩
  intro ai f w hI aw d aj
  obtain ⟨l,z,h9,o,j,p,v,S⟩:=hI
  refine Ws<|Ws<|Wg<|M' h9<|Fb' z ?_
  refine Lo 0 S<|Nq j<|La<|We ?_
  rcases condE d with ⟨ad,d⟩ | ⟨ad,d⟩
  ·refine CT ad<|Wk<|Ws<|Wb<|Ws<|WP.quiet S kr kr<|QFb' z ?_
   refine QB 0 k<|QM' h9<|QLh<|B d fun al am d=>WQ.idx (α:=Str) j rfl rfl el34 am ?_
   rintro ax _ an rfl
   refine QH (str al) an<|QFb' z ?_
   refine QB 0 k<|QM' h9<|B d fun ao ap d=>WQ.idx (α:=Str) j rfl rfl el34 ap ?_
   rintro ay _ aq rfl
   refine QH (str ao) aq<|QNf<|WQ.nil ?_
   intro az ar au S
   have ⟨j,o,p,v⟩:=U4 au j o p v
   rcases condE d with ⟨ae,d⟩ | ⟨ae,d⟩
   ·refine CT ae<|Ws<|Wg<|A<|We ?_
    obtain rfl:=oi d
    obtain rfl:=aj
    exact WP.ret (Rb h S)
   refine CF ae<|Wk<|Wg<|M' h9<|Lg<|A<|We ?_
   obtain rfl:=oi d
   exact ⟨rfl,⟨ar,z,rfl,o,j,p,v,S⟩⟩
  refine CF ad<|Wx ?_
  obtain rfl:=oi d
  obtain rfl:=aj
  exact ⟨l,(S.pk [])⟩
 intro f w hM
 rcases ac with _ | e
 ·obtain ⟨ah,S⟩:=hM
  refine Ws<|Wg<|A<|We ?_
  exact WP.ret (Rb h S)
 exact hM.elim
theorem zEd {k:World} {c:Hp} (hw:Holds k c) (d:(List Str)) (l:Str) {o:Value} (i:Sl c o d) {r:Int} (h:zBZ d l=some r) :
  Ci Tryz.prog 122 [o,(str l)] k c r:=by
 refine CM 19 Tryz.func122 hw fun S=>?_
 refine Ws<|Wg<|A<|We<|Ws<|Ws<|Wg<|M<|Nq i<|M<|We<|B h fun p ad h=>WP.cut (fun f w=>match p with | .inl _=>∃ (v:Hp),St k c w v [] | .inr _=>False) ?_ ?_
 ·refine Wb ?_
  refine WP.loopM (zAb d l) (fun s f w=>match s with | x=>∃ (j:Hp),f 0=o∧f 1=(str l)∧f 7=(int (d.length:Int))∧f 8=(int x)∧Sl j o d∧St k c w j []) 0 p ad ?_ ?_
  ·exact ⟨c,rfl,rfl,rfl,rfl,i,S⟩
  intro x f w hI y8 b z
  obtain ⟨j,h2,h3,h4,q,i,S⟩:=hI
  refine Ws<|Wg<|La' q h4<|We<|Ws ?_
  rcases condE b with ⟨t,b⟩ | ⟨t,b⟩
  ·refine CT t<|Wk<|Ws<|Wb<|Ws<|Wg<|M' q<|A<|We<|Ws<|Wg<|M' h3 ?_
   refine M' h2<|M<|B b fun ai ae b=>W.idx (α:=Str) i rfl rfl el34 ae ?_
   rintro aj _ af rfl
   refine Lq S af<|Na<|We ?_
   rcases condE b with ⟨u,b⟩ | ⟨u,b⟩
   ·refine CT u<|Ws<|Wg<|M<|A<|We ?_
    obtain rfl:=oi b
    obtain rfl:=z
    exact WP.ret (Ri h S)
   refine CF u<|Wk<|Wg<|Lg' q rfl<|M<|We ?_
   obtain rfl:=oi b
   exact ⟨rfl,⟨j,h2,h3,h4,rfl,i,S⟩⟩
  refine CF t<|Wx ?_
  obtain rfl:=oi b
  obtain rfl:=z
  exact ⟨j,S⟩
 intro f w hM
 rcases p with _ | e
 ·obtain ⟨v,S⟩:=hM
  refine Ws<|Wg<|A<|We ?_
  exact WP.ret (Ri h S)
 exact hM.elim
theorem zBr {f:World} {b:Hp} (hw:Holds f b) (c:(List Str)) (d:Str) {i:Value} (j:Sl b i c) {r:Bool} (h:zAc c d=some r) :
  Cb Tryz.prog 96 [i,(str d)] f b r:=by
 refine CM 9 Tryz.func96 hw fun S=>?_
 refine Ws<|Wg<|A<|We<|Ws<|Wg<|M<|M<|B h fun l k h=>W.call S rfl (zEd S.holds c d j k) ?_
 rintro o p q t S rfl
 refine Ld<|A<|We ?_
 exact WP.ret (Rb h S)
end Go.Proofs
