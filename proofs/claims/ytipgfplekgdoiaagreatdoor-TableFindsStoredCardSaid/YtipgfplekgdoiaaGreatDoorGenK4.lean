/- A part. -/
import Derived.Test.YtipgfplekgdoiaaGreatDoorEng38
import Derived.Test.YtipgfplekgdoiaaGreatDoorEng33
import Derived.Test.YtipgfplekgdoiaaGreatDoorGenK3
namespace Go.Proofs
set_option maxHeartbeats 4000000
set_option maxRecDepth 10000
open Go.Eng Go.Eng.Pure
set_option linter.unusedVariables false
theorem zIK {o:World} {j:Hp} (hw:Holds o j) (c:Str) (k:Str) (q:Int) (az:Int) {r:(List Str)} (h:zE8 c k q az=some r) :
  Con Tryz.prog 271 [(str c),(str k),(int q),(int az)] o j (fun H' v=>Sl H' v r):=by
 refine CM 66 Tryz.func271 hw fun S=>?_
 refine Ws<|Wg<|A<|We<|Ws<|Ws<|Wg<|M<|Le<|We ?_
 rcases condE h with ⟨ai,h⟩ | ⟨ai,h⟩
 ·refine CT ai<|Ws<|Wg<|A<|We ?_
  exact WP.ret (Rl h S Sl.nil)
 refine CF ai<|Wk<|Ws<|Ws<|Wg<|M<|Na<|We ?_
 rcases condE h with ⟨aj,h⟩ | ⟨aj,h⟩
 ·refine CT aj<|Ws<|Wg<|M<|M ?_
  cases h
 refine CF aj<|Wk<|Ws<|Ws<|Wg<|M<|La<|We<|B h fun ab l h=>WP.cut (fun f w=>∃ (H3:Hp),f 0=(str c)∧f 1=(str k)∧f 2=(int q)∧f 3=(int ab)∧St o j w H3 []) ?_ ?_
 ·rcases condE l with ⟨al,l⟩ | ⟨al,l⟩
  ·refine CT al<|Wg<|M<|M<|B l fun b9 bb l=>W.call S rfl (zG3 S.holds c k bb) ?_
   rintro ca cb bc cc S rfl
   refine Lg<|A<|We ?_
   cases l
   exact ⟨bc,rfl,rfl,rfl,rfl,S⟩
  refine CF al<|Wk ?_
  cases l
  exact ⟨j,rfl,rfl,rfl,rfl,S⟩
 rintro f w ⟨H3,h4,h5,h6,h8,S⟩
 refine Ws<|Wg<|M' h8<|M' h4<|Ns<|Lg<|Ni<|A<|We<|Ws<|Wg<|M<|B h fun bg bh h=>W.makeSlice (α:=Str) (zv:=(str [])) (z:=[]) S el34 rfl rfl rfl zer9 rfl bh ?_
 intro p cd bi d bj bk S
 refine A<|We<|Ws<|Wg<|M<|Lh<|A<|We<|Ws<|Wg<|A<|We ?_
 refine Ws<|B h fun am bn h=>WP.cut (fun f w=>match am with | (a1,an,ac)=>∃ (ao:Hp) (ap:List Value),f 0=(str a1)∧f 9=(.slice (some ⟨p,0,none⟩) d d)∧f 10=(int an)∧Ms ao ap ac∧ac.length=d∧St o j w ao [.box p 9 ap]) ?_ ?_
 ·refine Wb ?_
  refine WP.loopM (zA2 c k q ab) (fun s f w=>match s with | (aq,ar,ad)=>∃ (ae:Hp) (t:List Value),f 0=(str aq)∧f 1=(str k)∧f 2=(int q)∧f 3=(int (wr ((if (wr ((c.length:Int)+1))<ab then (wr ((c.length:Int)+1)) else ab) - 1)))∧f 9=(.slice (some ⟨p,0,none⟩) d d)∧f 10=(int ar)∧Ms ae t ad∧ad.length=d∧St o j w ae [.box p 9 t]) (c,0,bg) am bn ?_ ?_
  ·exact ⟨H3,bi,h4,h5,h6,rfl,rfl,rfl,bk,bj,S⟩
  intro s f w hI ce b a2
  obtain ⟨aq,ar,ad⟩:=s
  obtain ⟨ae,t,u,au,a3,a4,af,x,aa,ah,S⟩:=hI
  refine Ws<|Ws<|Wg<|M' x<|M' a4<|La<|We ?_
  rcases condE b with ⟨av,b⟩ | ⟨av,b⟩
  ·refine CT av<|Wk<|Wb<|Ws<|Wg<|M' u<|M' au<|B b fun cf bo b=>W.call S rfl (zE4 S.holds aq k bo) ?_
   rintro cg ch a5 bp S rfl
   have aa:=Ms.mono aa bp
   refine A<|We<|Ws<|Ws<|Wg<|M<|La<|We ?_
   rcases condE b with ⟨aw,b⟩ | ⟨aw,b⟩
   ·refine CT aw<|Wx ?_
    cases b
    obtain rfl:=a2
    exact ⟨a5,t,u,af,x,aa,ah,S⟩
   refine CF aw<|Wk<|Ws<|Wg<|M' af<|M' x<|M' u<|M<|M' a3<|Lg<|B b fun ci bq b=>Jd bq<|B b fun cj br b=>?_
   refine WL.w (R.idxM (α:=Str) (xs:=ad) rfl ah rfl el34 br)<|B b fun ck a6 b=>?_
   refine W.storeM (α:=Str) (i:=0) (m:=ar) S aa rfl rfl rfl lay9 rfl rfl a6 ?_
   intro cl bs bt S
   have bu:=(zFs a6).1.trans ah
   refine We<|Ws<|Wg<|M' u<|M<|M' au<|Ns<|Lg<|B b fun cm bv b=>Jc bv<|A<|We<|Wg<|M' x<|Lg<|A<|We ?_
   cases b
   exact ⟨rfl,⟨a5,bs,rfl,au,a3,a4,af,rfl,bt,bu,S⟩⟩
  refine CF av<|Wx ?_
  cases b
  obtain rfl:=a2
  exact ⟨ae,t,u,af,x,aa,ah,S⟩
 intro f w hM
 obtain ⟨a1,an,ac⟩:=am
 obtain ⟨ao,ap,bw,a7,a8,bx,a9,S⟩:=hM
 refine Ws<|Wg<|M' a7<|M' a8<|M' bw<|B h fun cn bz h=>?_
 refine WL.w (R.idxM (α:=Str) (xs:=ac) rfl a9 rfl el34 bz)<|B h fun b0 ba h=>?_
 refine W.storeM (α:=Str) (i:=0) (m:=an) S bx rfl rfl rfl lay9 rfl rfl ba ?_
 intro co b1 ax S
 have b2:=(zFs ba).1.trans a9
 refine We<|Ws<|Wg<|M' a7<|M' a8<|Lg ?_
 obtain ⟨ay,b3,b4,_,S⟩:=S.settle (i:=0) rfl
 replace S:St o j _ ay []:=S
 have b5:At ay ⟨p,0,none⟩ b1:=⟨_,_,rfl,b4,[],by simp⟩
 have ax:=Ms.mono ax b3
 have b6:Sl ay (.slice (some ⟨p,0,none⟩) d d) b0:=Ms.sl ax b2 b5
 refine B h fun cp b7 h=>W.subHi (α:=Str) b6 rfl rfl el34 b7 ?_
 intro cq b8
 refine A<|We ?_
 exact WP.ret (Rl h S b8)
theorem zJY {d:World} {f:Hp} (hw:Holds d f) (b:Str) (c:Str) {r:(List Str)} (h:zFK b c=some r) :
  Con Tryz.prog 266 [(str b),(str c)] d f (fun H' v=>Sl H' v r):=by
 refine CM 8 Tryz.func266 hw fun S=>?_
 refine Ws<|Wg<|A<|We<|Ws<|Wg<|M<|M<|B h fun k i h=>W.call S rfl (zIK S.holds b c 0 (-1) i) ?_
 rintro l o p q S j
 refine A<|We ?_
 exact WP.ret (Rl h S j)
theorem zIk {u:World} {v:Hp} (hw:Holds u v) (q:Str) (k:Bool) {r:Bool} (h:zEI q k=some r) :
  Cb Tryz.prog 267 [(str q),(boo k)] u v r:=by
 refine CM 41 Tryz.func267 hw fun S=>?_
 refine Ws<|Wg<|A<|We<|Ws<|Ws<|Wg<|M<|B h fun t ao h=>W.call S rfl (zAV S.holds q ao) ?_
 rintro v2 w3 H4 ax S rfl
 refine W.bytes (s:=t) S rfl Tryz.underlying9 Tryz.underlying128 Tryz.underlying5 ?_
 intro b6 c7 w8 az S
 refine Nv<|M<|We<|B h fun z ar h=>WP.cut (fun f w=>match z with | .inl _=>∃ (ae:Hp),f 0=(str q)∧St u v w ae [] | .inr _=>False) ?_ ?_
 ·refine Wb ?_
  refine WP.loopM (zB2 k t) (fun s f w=>match s with | af=>∃ (x:Hp),f 0=(str q)∧f 1=(boo k)∧f 9=(.slice (some ⟨b6,0,none⟩) t.length c7)∧f 10=(int (t.length:Int))∧f 11=(int af)∧St u v w x [.box b6 5 (t.map byt)]) 0 z ar ?_ ?_
  ·exact ⟨H4,rfl,rfl,rfl,rfl,rfl,S⟩
  intro af f w hI a0 d ah
  obtain ⟨x,ai,aj,ak,al,aa,S⟩:=hI
  refine Ws<|Wg<|La' aa al<|We<|Ws ?_
  rcases condE d with ⟨ab,d⟩ | ⟨ab,d⟩
  ·refine CT ab<|Wk<|Ws<|Wb<|Ws<|Wg<|B d fun a1 am d=>?_
   have a2:=(zAr am).2
   refine WL.w (R.idxB ak aa el128 (zAr am).2)<|B d fun c au d=>?_
   refine WL.w (R.loadB (i:=0) S rfl rfl lay5 (zAr au).1)<|A<|We<|Ws<|Wg<|M<|Ma c 97<|M ?_
   refine WL.grp 3 [18,19] 20 (boo ((decide (c<97))||(decide (122<c)))) ?_ ?_
   ·rcases boolE (decide (c<97)) with l | l
    ·refine Gn l<|Gn l<|Pt l ?_
     exact We ⟨(orT l),ag,rfl⟩
    refine Gy l<|M<|Gy l<|Mc c 122<|Pf l ?_
    exact We ⟨(orF l),ag,rfl⟩
   intro us
   refine M ?_
   refine WL.grp 11 [22,23,24,25,26,27,28,29,30,31] 32 (boo (((decide (c<97))||(decide (122<c)))&&(((!k)||(decide (c<48)))||(decide (57<c))))) ?_ ?_
   ·rcases boolE ((decide (c<97))||(decide (122<c))) with b | b
    ·refine Gy b<|M' aj<|Gy b<|No<|Gy b<|M ?_
     refine WL.grp 3 [25,26] 27 (boo ((!k)||(decide (c<48)))) ?_ ?_
     ·rcases boolE (!k) with o | o
      ·refine Gn o<|Gn o<|Gy b<|Pt o ?_
       exact We ⟨(orT o),ag,rfl⟩
      refine Gy o<|M<|Gy o<|Ma c 48<|Gy b<|Pf o ?_
      exact We ⟨(orF o),ag,rfl⟩
     intro us
     refine Gy b<|M ?_
     refine WL.grp 3 [29,30] 31 (boo (((!k)||(decide (c<48)))||(decide (57<c)))) ?_ ?_
     ·rcases boolE ((!k)||(decide (c<48))) with p | p
      ·refine Gn p<|Gn p<|Gy b<|Pt p ?_
       exact We ⟨(orT p),ag,rfl⟩
      refine Gy p<|M<|Gy p<|Mc c 57<|Gy b<|Pf p ?_
      exact We ⟨(orF p),ag,rfl⟩
     intro us
     refine Pt b ?_
     exact We ⟨(andT b),ag,rfl⟩
    refine Gn b<|Gn b<|Gn b<|WL.gund rfl rfl<|WL.gund rfl rfl<|Gn b<|Gn b<|WL.gund rfl rfl<|WL.gund rfl rfl<|Gn b<|Pf b ?_
    exact We ⟨(andF b),ag,rfl⟩
   intro us
   refine We ?_
   rcases condE d with ⟨ac,d⟩ | ⟨ac,d⟩
   ·refine CT ac<|Ws<|Wg<|A<|We ?_
    cases d
    obtain rfl:=ah
    exact WP.ret (Rb h S)
   refine CF ac<|Wk<|Wg<|Lg' aa rfl<|M<|We ?_
   cases d
   exact ⟨rfl,⟨x,ai,aj,ak,al,rfl,S⟩⟩
  refine CF ab<|Wx ?_
  cases d
  obtain rfl:=ah
  exact ⟨x,ai,(S.drop _ (.cons _ .slnil))⟩
 intro f w hM
 rcases z with _ | e
 ·obtain ⟨ae,an,S⟩:=hM
  refine Ws<|Wg<|M' an<|Nb<|M ?_
  refine WL.grp 4 [37,38,39] 40 (boo ((q !=[])&&(decide ((q.length:Int)≤8)))) ?_ ?_
  ·rcases boolE (q !=[]) with j | j
   ·refine Gy j<|M' an<|Gy j<|Ns<|Gy j<|Lb<|Pt j ?_
    exact We ⟨(andT j),ag,rfl⟩
   refine Gn j<|Gn j<|Gn j<|Pf j ?_
   exact We ⟨(andF j),ag,rfl⟩
  intro us
  refine A<|We ?_
  exact WP.ret (Rb h S)
 exact hM.elim
theorem zFl {d:World} {i:Hp} (hw:Holds d i) (l:Str) {r:Bool} (h:zD4 l=some r) :
  Cb Tryz.prog 258 [(str l)] d i r:=by
 refine CM 19 Tryz.func258 hw fun S=>?_
 refine Ws<|Wg<|A<|We<|Ws<|Ws<|Wg<|M<|B h fun o ac h=>W.call S rfl (zJY S.holds l [45] ac) ?_
 rintro v w3 H4 an S c
 refine Nq c<|M<|We<|B h fun p ae h=>WP.cut (fun f w=>match p with | .inl _=>∃ (x:Hp),St d i w x [] | .inr _=>False) ?_ ?_
 ·refine Wb ?_
  refine WP.loopM (zCy o) (fun s f w=>match s with | q=>∃ (j:Hp),f 6=v∧f 7=(int (o.length:Int))∧f 8=(int q)∧Sl j v o∧St d i w j []) 0 p ae ?_ ?_
  ·exact ⟨H4,rfl,rfl,rfl,c,S⟩
  intro q f w hI ao b z
  obtain ⟨j,h8,h9,k,c,S⟩:=hI
  refine Ws<|Wg<|La' k h9<|We<|Ws ?_
  rcases condE b with ⟨t,b⟩ | ⟨t,b⟩
  ·refine CT t<|Wk<|Ws<|Wb<|Ws<|Wg<|M' k<|B b fun af ah b=>W.idx (α:=Str) c h8 k el34 ah ?_
   rintro ap _ ai rfl
   refine Lq S ai<|A<|A<|We<|Ws<|Wg<|M<|M<|Lc<|B b fun aq aj b=>W.call S rfl (zIk S.holds af (decide (0<q)) aj) ?_
   rintro ar au ak al S rfl
   have c:=c.up al
   refine No<|We ?_
   rcases condE b with ⟨u,b⟩ | ⟨u,b⟩
   ·refine CT u<|Ws<|Wg<|A<|We ?_
    cases b
    obtain rfl:=z
    exact WP.ret (Rb h S)
   refine CF u<|Wk<|Wg<|Lg' k rfl<|M<|We ?_
   cases b
   exact ⟨rfl,⟨ak,h8,h9,rfl,c,S⟩⟩
  refine CF t<|Wx ?_
  cases b
  obtain rfl:=z
  exact ⟨j,S⟩
 intro f w hM
 rcases p with _ | e
 ·obtain ⟨x,S⟩:=hM
  refine Ws<|Wg<|A<|We ?_
  exact WP.ret (Rb h S)
 exact hM.elim
theorem zHV {c:World} {d:Hp} (hw:Holds c d) (f:Unit) (b:Str) {r:(Str×Bool)} (h:zCl f b=some r) :
  Con Tryz.prog 291 [(agg []),(str b)] c d (fun H' v=>v=(.tuple ⟨[(str r.1),(boo r.2)]⟩)):=by
 refine CM 10 Tryz.func291 hw fun S=>?_
 refine Ws<|Wg ?_
 refine W.box [] S rfl rfl ?_
 intro k l S
 refine A<|A<|We<|Ws<|Wg<|M<|B h fun o i h=>W.call S rfl (zAV S.holds b i) ?_
 rintro p q t u S rfl
 refine M<|B h fun x j h=>W.call S rfl (zFl S.holds b j) ?_
 rintro z aa ab ac S rfl
 refine A<|A<|We ?_
 cases h
 refine WP.ret (Out.two rfl S rfl rfl ?_)
 exact rfl
theorem zBk {c:World} {d:Hp} (hw:Holds c d) (z:Int) (o:Str) {r:Str} (h:zBD z o=some r) :
  Cs Tryz.prog 247 [(int z),(str o)] c d r:=by
 refine CM 18 Tryz.func247 hw fun S=>?_
 refine Ws<|Wg<|A<|We<|Ws<|Wg<|M<|B h fun k ai h=>W.call S rfl (zAV S.holds o ai) ?_
 rintro v2 w3 H4 ap S rfl
 refine A<|We<|Ws<|Ws<|Wg<|M<|Lf<|We ?_
 rcases condE h with ⟨p,h⟩ | ⟨p,h⟩
 ·refine CT p<|Ws<|Wg<|M<|A<|We ?_
  exact WP.ret (Rs h S)
 refine CF p<|Wk<|Ws<|Ws<|Wg<|M<|We<|B h fun ab b h=>WP.cut (fun f w=>match ab with | .inl _=>∃ (H7:Hp),f 1=(str k)∧St c d w H7 [] | .inr _=>False) ?_ ?_
 ·refine Wb<|Ws<|Ws<|Wg<|Na<|A<|We<|B b fun aj i b=>WP.cut (fun f w=>∃ (l:Hp),f 1=(str k)∧f 10=(str k)∧f 11=(boo aj)∧St c d w l []) ?_ ?_
  ·rcases condE i with ⟨q,i⟩ | ⟨q,i⟩
   ·refine CT q<|Wk ?_
    cases i
    exact ⟨H4,rfl,rfl,rfl,S⟩
   refine CF q<|Wg<|Na<|A<|We ?_
   cases i
   exact ⟨H4,rfl,rfl,rfl,S⟩
  rintro f w ⟨l,ad,ae,af,S⟩
  rcases condE b with ⟨t,b⟩ | ⟨t,b⟩
  ·refine WP.condT af t<|Ws<|Wg<|A<|We ?_
   cases b
   exact WP.ret (Rs h S)
  refine WP.condF af t<|Ws<|Ws<|Wg<|Na' ae rfl<|A<|We<|B b fun ak j b=>WP.cut (fun f w=>∃ (u:Hp),f 1=(str k)∧f 14=(boo ak)∧St c d w u []) ?_ ?_
  ·rcases condE j with ⟨v,j⟩ | ⟨v,j⟩
   ·refine CT v<|Wk ?_
    cases j
    exact ⟨l,ad,rfl,S⟩
   refine CF v<|Wg<|Na' ae rfl<|A<|We ?_
   cases j
   exact ⟨l,ad,rfl,S⟩
  rintro f w ⟨u,al,ah,S⟩
  rcases condE b with ⟨x,b⟩ | ⟨x,b⟩
  ·refine WP.condT ah x<|Ws<|Wg<|A<|We ?_
   cases b
   exact WP.ret (Rs h S)
  refine WP.condF ah x<|Wk ?_
  cases b
  exact ⟨u,al,S⟩
 intro f w hM
 rcases ab with _ | e
 ·obtain ⟨H7,h8,S⟩:=hM
  refine Ws<|Wg<|M' h8<|A<|We ?_
  exact WP.ret (Rs h S)
 exact hM.elim
theorem zHC {f:World} {i:Hp} (hw:Holds f i) (d:Int) (c:Str) {r:(Str×Bool)} (h:zCS d c=some r) :
  Con Tryz.prog 292 [(int d),(str c)] f i (fun H' v=>v=(.tuple ⟨[(str r.1),(boo r.2)]⟩)):=by
 refine CM 15 Tryz.func292 hw fun S=>?_
 refine Ws<|Wg<|A<|A<|We<|Ws<|Wg<|M<|M<|B h fun o k h=>W.call S rfl (zBk S.holds d c k) ?_
 rintro p q t u S rfl
 refine M<|B h fun j l h=>W.call S rfl (zAz S.holds c l) ?_
 rintro x z H9 ab S rfl
 refine M ?_
 refine WL.grp 3 [12,13] 14 (boo (j&&(c !=[42]))) ?_ ?_
 ·rcases boolE j with b | b
  ·refine Gy b<|M<|Gy b<|Nb<|Pt b ?_
   exact We ⟨(andT b),ag,rfl⟩
  refine Gn b<|Gn b<|Pf b ?_
  exact We ⟨(andF b),ag,rfl⟩
 intro us
 refine A<|A<|We ?_
 cases h
 refine WP.ret (Out.two rfl S rfl rfl ?_)
 exact rfl
theorem zHB {l:World} {k:Hp} (hw:Holds l k) (t:Unit) (d:Str) {r:(Str×Bool)} (h:zCO t d=some r) :
  Con Tryz.prog 293 [(agg []),(str d)] l k (fun H' v=>v=(.tuple ⟨[(str r.1),(boo r.2)]⟩)):=by
 refine CM 25 Tryz.func293 hw fun S=>?_
 refine Ws<|Wg ?_
 refine W.box [] S rfl rfl ?_
 intro o w2 S
 refine A<|A<|We<|Ws<|Wg<|M<|M<|Ns<|Ld<|M ?_
 refine WL.grp 4 [11,12,13] 14 (boo ((decide (1≤(d.length:Int)))&&(decide ((d.length:Int)≤100)))) ?_ ?_
 ·rcases boolE (decide (1≤(d.length:Int))) with c | c
  ·refine Gy c<|M<|Gy c<|Ns<|Gy c<|Lb<|Pt c ?_
   exact We ⟨(andT c),ag,rfl⟩
  refine Gn c<|Gn c<|Gn c<|Pf c ?_
  exact We ⟨(andF c),ag,rfl⟩
 intro us
 refine M<|B h fun p i h=>WL.grpw 3 [16,17] 18 (boo p) (fun w=>∃ H':Hp,k.le H'∧St l k w H' [.box o 155 []]) ?_ ?_
 ·rcases boolE ((decide (1≤(d.length:Int)))&&(decide ((d.length:Int)≤100))) with f | f
  ·replace i:=condT i f
   refine Gy f<|M<|Gy f<|B i fun r7 u i=>W.call S rfl (zIS S.holds d u) ?_
   rintro v8 w9 x z S rfl
   refine Pt f ?_
   exact We ⟨(ob i),ag,⟨x,z,S⟩⟩
  replace i:=condF i f
  refine Gn f<|Gn f<|Pf f ?_
  exact We ⟨(ob i),ag,⟨k,lr,S⟩⟩
 intro us aj ⟨q,ak,S⟩
 refine M<|B h fun aa j h=>WL.grpw 5 [20,21,22,23] 24 (boo aa) (fun w=>∃ H':Hp,q.le H'∧St l k w H' [.box o 155 []]) ?_ ?_
 ·rcases boolE p with b | b
  ·replace j:=condT j b
   refine Gy b<|M<|Gy b<|B j fun al ab j=>W.call S rfl (zFN S.holds d ab) ?_
   rintro am an ac ad S rfl
   refine Gy b<|M<|Gy b<|Na<|Pt b ?_
   exact We ⟨(ob j),ag,⟨ac,ad,S⟩⟩
  replace j:=condF j b
  refine Gn b<|Gn b<|Gn b<|Gn b<|Pf b ?_
  exact We ⟨(ob j),ag,⟨q,lr,S⟩⟩
 intro us ao ⟨ap,aq,S⟩
 refine A<|A<|We ?_
 cases h
 refine WP.ret (Out.two rfl S rfl rfl ?_)
 exact rfl
theorem zCQ {b:World} {c:Hp} (hw:Holds b c) (x:Gvariants_domain) (p0:Str) {r:(Str×Bool)} (h:zBY x p0=some r) :
  ConI Tryz.prog "variantproxy/variants.form" (Tryz.vvariants_domain x) [(str p0)] b c (fun H' v=>v=(.tuple ⟨[(str r.1),(boo r.2)]⟩)):=by
 cases x with
 | media=>exact ConI.mk (fun w=>by kernel_rfl) (zHG hw () p0 h)
 | tags=>exact ConI.mk (fun w=>by kernel_rfl) (zHV hw () p0 h)
 | words n=>exact ConI.mk (fun w=>by kernel_rfl) (zHC hw n p0 h)
 | texts=>exact ConI.mk (fun w=>by kernel_rfl) (zHB hw () p0 h)
theorem zIy {q:World} {o:Hp} (hw:Holds q o) (d:GAxis) {p:Value} (j:Sl o p d.fValues) {r:Bool} (h:zEo d=some r) :
  Cb Tryz.prog 95 [(agg [(str d.fName),p])] q o r:=by
 refine CM 46 Tryz.func95 hw fun S=>?_
 refine Ws<|Wg ?_
 refine W.box [(str d.fName),p] S rfl rfl ?_
 intro b1 w2 S
 refine A<|We<|Ws<|Ws<|Wg<|Fb ?_
 refine Lo 0 S<|Nq j<|La<|M ?_
 refine WL.grp 5 [14,15,16,17] 18 (boo ((decide ((d.fValues.length:Int)<1))||(decide (16<(d.fValues.length:Int))))) ?_ ?_
 ·rcases boolE (decide ((d.fValues.length:Int)<1)) with c | c
  ·refine Gn c<|Gn c<|Gn c<|Gn c<|Pt c ?_
   exact We ⟨(orT c),ag,rfl⟩
  refine Gy c<|Fb<|Gy c ?_
  refine Lo 0 S<|Gy c<|Nq j<|Gy c<|Lc<|Pf c ?_
  exact We ⟨(orF c),ag,rfl⟩
 intro us
 refine We ?_
 rcases condE h with ⟨x,h⟩ | ⟨x,h⟩
 ·refine CT x<|Ws<|Wg<|A<|We ?_
  exact WP.ret (Rb h S)
 refine CF x<|Wk<|Ws<|Wg<|Fb ?_
 refine Lo 0 S<|B h fun r6 ao h=>W.call S rfl (zFA S.holds d.fName ao) ?_
 rintro v7 w8 H9 aq S rfl
 have j:=j.up aq
 refine A<|We<|Ws<|Wg<|W.makeMap S ?_
 intro ah a7 S
 refine A<|We<|Ws<|Ws<|Wg<|Fb ?_
 refine Lo 1 S<|Nq j<|M<|We<|B h fun ab ar h=>WP.cut (fun f w=>match ab with | .inl _=>∃ (ai:Hp),St q o w ai [] | .inr _=>False) ?_ ?_
 ·refine Wb ?_
  refine WP.loopM (zBI d r6) (fun s f w=>match s with | (aj,t)=>∃ (u:Hp),f 3=(Tryz.vvariants_domain r6)∧f 4=(mapv ah)∧f 24=p∧f 25=(int (d.fValues.length:Int))∧f 26=(int aj)∧Sl u p d.fValues∧St q o w u [.mp ah (encm boo t)]) (0,([]:List (Str×Bool))) ab ar ?_ ?_
  ·exact ⟨H9,rfl,rfl,rfl,rfl,rfl,j,(S.drop _ (.cons_cons _ (.cons _ .slnil)))⟩
  intro s f w hI a8 b ak
  obtain ⟨aj,t⟩:=s
  obtain ⟨u,al,ac,am,an,ad,j,S⟩:=hI
  refine Ws<|Wg<|La' ad an<|We<|Ws ?_
  rcases condE b with ⟨ae,b⟩ | ⟨ae,b⟩
  ·refine CT ae<|Wk<|Ws<|Wb<|Ws<|Wg<|B b fun au av b=>W.idx (α:=Str) j am ad el34 av ?_
   rintro a9 _ aw rfl
   refine Lq S aw<|A<|We<|Ws<|Wg<|M' al<|M<|B b fun ax ay b=>W.invoke S rfl rfl (zCQ S.holds r6 au ay) ?_
   rintro ba bb az a0 S rfl
   have j:=j.up a0
   refine M ?_
   refine Ex ?_
   refine Ex<|A<|A<|We<|Ws<|Ws<|Wg<|M<|No<|M<|B b fun a1 l b=>WL.grp 4 [39,40,41] 42 (boo a1) ?_ ?_
   ·rcases boolE (!ax.2) with k | k
    ·replace l:=condT l k
     refine Gn k<|Gn k<|Gn k<|Pt k ?_
     exact We ⟨(ob l),ag,rfl⟩
    replace l:=condF l k
    refine Gy k<|M' ac<|Gy k<|M<|Gy k<|B l fun g38 a2 l=>?_
    refine WL.w (v:=boo g38.1) (R.ofEq (R.lookup1 boo (i:=0) (m:=t) (z:=false) S rfl rfl rfl Tryz.underlying107 Tryz.underlying9 mz4 rfl) (by rw [oi a2]))<|Pf k ?_
    exact We ⟨(ob l),ag,rfl⟩
   intro us
   refine We ?_
   rcases condE b with ⟨af,b⟩ | ⟨af,b⟩
   ·refine CT af<|Ws<|Wg<|A<|We ?_
    cases b
    obtain rfl:=ak
    exact WP.ret (Rb h S)
   refine CF af<|Wk<|Wg<|M' ac<|M<|W.mapUpdate boo (i:=0) (m:=t) true S rfl rfl rfl rfl rfl Tryz.underlying107 Tryz.underlying9 ?_
   intro bc S
   refine We<|Wg<|Lg' ad rfl<|M<|We ?_
   cases b
   exact ⟨rfl,⟨az,al,ac,am,an,rfl,j,S⟩⟩
  refine CF ae<|Wx ?_
  cases b
  obtain rfl:=ak
  exact ⟨u,(S.drop _ (.cons _ .slnil))⟩
 intro f w hM
 rcases ab with _ | e
 ·obtain ⟨ai,S⟩:=hM
  refine Ws<|Wg<|A<|We ?_
  exact WP.ret (Rb h S)
 exact hM.elim
theorem zCD {w0:World} {u:Hp} (hw:Holds w0 u) (k:(List GAxis)) {o:Value} (d:Sl u o k) {r:Bool} (h:zBd k=some r) :
  Cb Tryz.prog 60 [o] w0 u r:=by
 refine CM 54 Tryz.func60 hw fun S=>?_
 refine Ws<|Wg<|A<|We<|Ws<|Ws<|Wg<|M<|Nq d<|La<|M ?_
 refine WL.grp 4 [11,12,13] 14 (boo ((decide ((k.length:Int)<1))||(decide (4<(k.length:Int))))) ?_ ?_
 ·rcases boolE (decide ((k.length:Int)<1)) with p | p
  ·refine Gn p<|Gn p<|Gn p<|Pt p ?_
   exact We ⟨(orT p),ag,rfl⟩
  refine Gy p<|M<|Gy p<|Nq d<|Gy p<|Lc<|Pf p ?_
  exact We ⟨(orF p),ag,rfl⟩
 intro us
 refine We ?_
 rcases condE h with ⟨ak,h⟩ | ⟨ak,h⟩
 ·refine CT ak<|Ws<|Wg<|A<|We ?_
  exact WP.ret (Rb h S)
 refine CF ak<|Wk<|Ws<|Ws<|Wg<|M<|Nq d<|M<|We<|B h fun al bg h=>WP.cut (fun f w=>match al with | .inl _=>∃ (ay:Hp),St w0 u w ay [] | .inr _=>False) ?_ ?_
 ·refine Wb ?_
  refine WP.loopM (zCH k) (fun s f w=>match s with | af=>∃ (H4:Hp),f 0=o∧f 15=o∧f 16=(int (k.length:Int))∧f 17=(int af)∧Sl H4 o k∧St w0 u w H4 []) 0 al bg ?_ ?_
  ·exact ⟨u,rfl,rfl,rfl,rfl,d,S⟩
  intro af f w hI b2 b am
  obtain ⟨H4,h5,h6,h7,h9,d,S⟩:=hI
  refine Ws<|Wg<|La' h9 h7<|We<|Ws ?_
  rcases condE b with ⟨an,b⟩ | ⟨an,b⟩
  ·refine CT an<|Wk<|Ws<|Wb<|Ws<|Wg<|M' h9<|B b fun j bh b=>W.idx (α:=GAxis) d h6 h9 el22 bh ?_
   rintro b3 _ bi ⟨ad,rfl,aa⟩
   refine WL.w (R.loadHN (vs:=[(str j.fName),ad]) S rfl bi lay68 rfl rfl) ?_
   refine W.alloc [(str []),(.slice none 0 0)] S zer68 ?_
   intro a2 b4 S
   refine A ?_
   refine W.store (i:=0) [(str j.fName),ad] S rfl rfl rfl lay68 rfl (AllOne.all (l:=[(str j.fName),ad]) (.cons rfl (.cons (Sl.oneC aa) .nil))) (Nat.le_of_ble_eq_true rfl) rfl ?_
   intro b5 S
   refine We<|Ws<|Ws<|WP.quiet S kr kr<|QFb ?_
   refine QB 0 (str j.fName)<|B b fun a3 bj b=>WQ.call (v:=boo a3) rfl (fun w H' hq S=>zAz S.holds j.fName bj)<|QNo<|QM<|B b fun a4 x b=>WQ.grp 7 [27,28,29,30,31,32] 33 (boo a4) ?_ ?_
   ·rcases boolE (!a3) with c | c
    ·replace x:=condT x c
     refine QGn c<|QGn c<|QGn c<|QGn c<|QGn c<|QGn c<|QPt c ?_
     exact WQ.nil ⟨(ob x),ag⟩
    replace x:=condF x c
    refine QGy c<|QFb<|QGy c ?_
    refine QB 0 (str j.fName)<|QGy c<|B x fun bk bn x=>WQ.call (v:=str bk) rfl (fun w H' hq S=>zAV S.holds j.fName bn)<|QGy c<|QFb<|QGy c ?_
    refine QB 0 (str j.fName)<|QGy c<|QNb<|QPf c ?_
    exact WQ.nil ⟨(ob x),ag⟩
   intro us
   refine QM<|B b fun bo z b=>WQ.grp 4 [35,36,37] 38 (boo bo) ?_ ?_
   ·rcases boolE a4 with q | q
    ·replace z:=condT z q
     refine QGn q<|QGn q<|QGn q<|QPt q ?_
     exact WQ.nil ⟨(ob z),ag⟩
    replace z:=condF z q
    refine QGy q ?_
    refine WQ.val (fun w hw=>by obtain ⟨_,hq,S⟩:=hw; exact (R.loadBN (i:=0) (vs:=[(str j.fName),ad]) S rfl rfl lay68 rfl rfl))<|QGy q<|B z fun bp bq z=>WQ.call (v:=boo bp) rfl (fun w H' hq S=>zIy S.holds j (aa.up hq) bq)<|QGy q<|QNo<|QPf q ?_
    exact WQ.nil ⟨(ob z),ag⟩
   intro us
   refine WQ.nil ?_
   intro b6 br a5 S
   have d:=d.up a5
   have aa:=aa.up a5
   rcases condE b with ⟨ao,b⟩ | ⟨ao,b⟩
   ·refine CT ao<|Ws<|Wg<|A<|We ?_
    cases b
    obtain rfl:=am
    exact WP.ret (Rb h S)
   refine CF ao<|Wk<|Ws<|Wg<|M' h5<|M<|B b fun ap bs b=>W.subHi (α:=GAxis) d rfl rfl el22 bs ?_
   intro a6 ae
   refine Nq ae<|M<|We<|B b fun aq bt b=>WP.cut (fun f w=>match aq with | .inl _=>∃ (aj:Hp),f 0=o∧f 15=o∧f 16=(int (k.length:Int))∧f 17=(int af)∧Sl aj o k∧St w0 u w aj [] | .inr _=>False) ?_ ?_
   ·refine Wb ?_
    refine WP.loopM (zCE j ap) (fun s f w=>match s with | a7=>∃ (ab:Hp),f 0=o∧f 4=(ptr a2 0)∧f 15=o∧f 16=(int (k.length:Int))∧f 17=(int af)∧f 41=a6∧f 42=(int (ap.length:Int))∧f 43=(int a7)∧Sl ab o k∧Sl ab a6 ap∧Sl ab ad j.fValues∧St w0 u w ab [.box a2 68 [(str j.fName),ad]]) 0 aq bt ?_ ?_
    ·exact ⟨br,h5,rfl,h6,h7,h9,rfl,rfl,rfl,d,ae,aa,S⟩
    intro a7 f w hI b7 t a8
    obtain ⟨ab,a9,ba,bb,bc,bd,be,bf,ar,d,ae,aa,S⟩:=hI
    refine Ws<|Wg<|La' ar bf<|We<|Ws ?_
    rcases condE t with ⟨au,t⟩ | ⟨au,t⟩
    ·refine CT au<|Wk<|Ws<|Wb<|Ws<|Wg<|B t fun av bu t=>W.idx (α:=GAxis) ae be ar el22 bu ?_
     rintro b8 _ bv ⟨aw,rfl,bw⟩
     refine WL.w (R.loadHN (vs:=[(str av.fName),aw]) S rfl bv lay68 rfl rfl) ?_
     refine W.alloc [(str []),(.slice none 0 0)] S zer68 ?_
     intro b9 ca S
     refine W.store (i:=0) [(str av.fName),aw] S rfl rfl rfl lay68 rfl (AllOne.all (l:=[(str av.fName),aw]) (.cons rfl (.cons (Sl.oneC bw) .nil))) (Nat.le_of_ble_eq_true rfl) rfl ?_
     intro cb S
     refine We<|Ws<|Wg<|Fb' ba ?_
     refine Lo 1 S<|Fb ?_
     refine Lo 0 S<|Na<|We ?_
     rcases condE t with ⟨ax,t⟩ | ⟨ax,t⟩
     ·refine CT ax<|Ws<|Wg<|A<|We ?_
      cases t
      obtain rfl:=a8
      cases b
      obtain rfl:=am
      exact WP.ret (Rb h S)
     refine CF ax<|Wk<|Wg<|Lg' ar rfl<|M<|We ?_
     cases t
     exact ⟨rfl,⟨ab,a9,ba,bb,bc,bd,be,bf,rfl,d,ae,aa,(S.drop _ (.cons _ (.cons_cons _ .slnil)))⟩⟩
    refine CF au<|Wx ?_
    cases t
    obtain rfl:=a8
    exact ⟨ab,a9,bb,bc,bd,d,(S.drop _ (.cons _ .slnil))⟩
   intro f w hM
   rcases aq with _ | e
   ·obtain ⟨aj,bx,bz,b0,b1,d,S⟩:=hM
    refine Wg<|Lg' b1 rfl<|M<|We ?_
    cases b
    exact ⟨rfl,⟨aj,bx,bz,b0,rfl,d,S⟩⟩
   exact hM.elim
  refine CF an<|Wx ?_
  cases b
  obtain rfl:=am
  exact ⟨H4,S⟩
 intro f w hM
 rcases al with _ | e
 ·obtain ⟨ay,S⟩:=hM
  refine Ws<|Wg<|A<|We ?_
  exact WP.ret (Rb h S)
 exact hM.elim
theorem zJU {c:World} {d:Hp} (hw:Holds c d) (b:GParam) {r:Bool} (h:zCN b=some r) :
  Cb Tryz.prog 217 [(agg [(str b.fName),(str b.fValue)])] c d r:=by
 refine CM 6 Tryz.func217 hw fun S=>?_
 refine Ws<|Wg ?_
 refine W.box [(str b.fName),(str b.fValue)] S rfl rfl ?_
 intro f i S
 refine A<|We<|Ws<|Wg<|Fb ?_
 refine Lo 0 S<|Na<|A<|We ?_
 exact WP.ret (Rb h S)
theorem zJ2 {w0:World} {H0:Hp} (hw:Holds w0 H0) (p:Str) {r:(Int×Bool)} (h:zB3 p=some r) :
  Con Tryz.prog 218 [(str p)] w0 H0 (fun H' v=>v=(.tuple ⟨[(int r.1),(boo r.2)]⟩)):=by
 refine CM 70 Tryz.func218 hw fun S=>?_
 refine Ws<|Wg<|A<|A<|We<|Ws<|Ws<|Wg<|M<|Na<|M ?_
 refine WL.grp 4 [11,12,13] 14 (boo ((p==[])||(decide (5<(p.length:Int))))) ?_ ?_
 ·rcases boolE (p==[]) with k | k
  ·refine Gn k<|Gn k<|Gn k<|Pt k ?_
   exact We ⟨(orT k),ag,rfl⟩
  refine Gy k<|M<|Gy k<|Ns<|Gy k<|Lc<|Pf k ?_
  exact We ⟨(orF k),ag,rfl⟩
 intro us
 refine M<|B h fun au q h=>WL.grp 9 [16,17,18,19,20,21,22,23] 24 (boo au) ?_ ?_
 ·rcases boolE ((p==[])||(decide (5<(p.length:Int)))) with c | c
  ·replace q:=condT q c
   refine Gn c<|Gn c<|Gn c<|Gn c<|WL.gund rfl rfl<|WL.gund rfl rfl<|WL.gund rfl rfl<|Gn c<|Pt c ?_
   exact We ⟨(ob q),ag,rfl⟩
  replace q:=condF q c
  refine Gy c<|M<|Gy c<|B q fun c5 a5 q=>Ja a5<|Gy c<|Mf c5 48<|Gy c<|M<|B q fun b9 t q=>WL.grp 4 [20,21,22] 23 (boo b9) ?_ ?_
  ·rcases boolE (c5 !=48) with l | l
   ·replace t:=condT t l
    refine Gy l<|M<|Gy l<|B t fun c8 a8 t=>Ja a8<|Gy l<|Mf c8 49<|Gy c<|Pt l ?_
    exact We ⟨(ob t),ag,rfl⟩
   replace t:=condF t l
   refine Gn l<|Gn l<|Gn l<|Gy c<|Pf l ?_
   exact We ⟨(ob t),ag,rfl⟩
  intro us
  refine Pf c ?_
  exact We ⟨(ob q),ag,rfl⟩
 intro us
 refine M<|B h fun a9 u h=>WL.grp 9 [26,27,28,29,30,31,32,33] 34 (boo a9) ?_ ?_
 ·rcases boolE au with d | d
  ·replace u:=condT u d
   refine Gn d<|Gn d<|Gn d<|Gn d<|WL.gund rfl rfl<|WL.gund rfl rfl<|WL.gund rfl rfl<|Gn d<|Pt d ?_
   exact We ⟨(ob u),ag,rfl⟩
  replace u:=condF u d
  refine Gy d<|M<|Gy d<|Ns<|Gy d<|Lc<|Gy d<|M<|B u fun ba x u=>WL.grp 4 [30,31,32] 33 (boo ba) ?_ ?_
  ·rcases boolE (decide (1<(p.length:Int))) with o | o
   ·replace x:=condT x o
    refine Gy o<|M<|Gy o<|B x fun bb bc x=>Ja bc<|Gy o<|Mf bb 46<|Gy d<|Pt o ?_
    exact We ⟨(ob x),ag,rfl⟩
   replace x:=condF x o
   refine Gn o<|Gn o<|Gn o<|Gy d<|Pf o ?_
   exact We ⟨(ob x),ag,rfl⟩
  intro us
  refine Pf d ?_
  exact We ⟨(ob u),ag,rfl⟩
 intro us
 refine We ?_
 rcases condE h with ⟨ah,h⟩ | ⟨ah,h⟩
 ·refine CT ah<|Ws<|Wg<|A<|A<|We ?_
  cases h
  refine WP.ret (Out.two rfl S rfl rfl ?_)
  exact rfl
 refine CF ah<|Wk<|Ws<|Wg ?_
 refine WL.w (R.buildArr [(0,(int 1000)),(1,(int 0)),(2,(int 100)),(3,(int 10)),(4,(int 1))] [(int 1000),(int 0),(int 100),(int 10),(int 1)] Tryz.underlying236 lay3 zRI rfl rfl) ?_
 refine W.alloc [(int 0),(int 0),(int 0),(int 0),(int 0)] S zRI ?_
 intro bd br S
 refine W.store (i:=0) [(int 1000),(int 0),(int 100),(int 10),(int 1)] S rfl rfl rfl zRG rfl rfl (Nat.le_of_ble_eq_true rfl) rfl ?_
 intro bs S
 refine We<|Ws<|Wg<|A<|We<|Ws<|Ws<|Wg<|M<|Ns ?_
 obtain ⟨ai,bt,be,_,S⟩:=S.settle (i:=0) rfl
 replace S:St w0 H0 _ ai []:=S
 have bf:At ai ⟨bd,0,none⟩ [(int 1000),(int 0),(int 100),(int 10),(int 1)]:=⟨_,_,rfl,be,[],by simp⟩
 refine B h fun aj bg h=>W.arrHi (α:=Int) bf (Cells.ints (xs:=([1000,0,100,10,1]:List Int))) rfl rfl Tryz.underlying236 inf3 rfl (by decide) bg ?_
 intro aw aa
 refine Nq aa<|M<|We<|B h fun ak bh h=>WP.cut (fun f w=>match ak with | .inl ax=>∃ (ay:Hp),f 5=(int ax)∧St w0 H0 w ay [] | .inr _=>False) ?_ ?_
 ·refine Wb ?_
  refine WP.loopM (zAo p aj) (fun s f w=>match s with | (az,a0)=>∃ (ab:Hp),f 0=(str p)∧f 5=(int az)∧f 38=aw∧f 39=(int (aj.length:Int))∧f 40=(int a0)∧Sl ab aw aj∧St w0 H0 w ab []) (0,0) ak bh ?_ ?_
  ·exact ⟨ai,rfl,rfl,rfl,rfl,rfl,aa,S⟩
  intro s f w hI bu b a1
  obtain ⟨az,a0⟩:=s
  obtain ⟨ab,ae,al,am,an,af,aa,S⟩:=hI
  refine Ws<|Wg<|La' af an<|We<|Ws ?_
  rcases condE b with ⟨ao,b⟩ | ⟨ao,b⟩
  ·refine CT ao<|Wk<|Ws<|Wb<|Ws<|Wg<|M' af<|B b fun bv bi b=>W.idx (α:=Int) aa am af el118 bi ?_
   rintro bw _ bj rfl
   refine Lq S bj<|A<|A<|We<|Ws<|Ws<|Wg<|M<|Le<|We ?_
   rcases condE b with ⟨ap,b⟩ | ⟨ap,b⟩
   ·refine CT ap<|Wx<|Wg<|Lg' af rfl<|M<|We ?_
    cases b
    exact ⟨rfl,⟨ab,ae,al,am,an,rfl,aa,S⟩⟩
   refine CF ap<|Wk<|Ws<|Ws<|Wg<|M' ae<|M<|B b fun a2 bk b=>Ja bk<|Ma a2 48<|M<|B b fun bn z b=>WL.grp 5 [52,53,54,55] 56 (boo bn) ?_ ?_
   ·rcases boolE (decide (a2<48)) with j | j
    ·replace z:=condT z j
     refine Gn j<|Gn j<|Gn j<|Gn j<|Pt j ?_
     exact We ⟨(ob z),ag,rfl⟩
    replace z:=condF z j
    refine Gy j<|M' ae<|Gy j<|M<|Gy j<|B z fun bo bp z=>Ja bp<|Gy j<|Mc bo 57<|Pf j ?_
    exact We ⟨(ob z),ag,rfl⟩
   intro us
   refine We ?_
   rcases condE b with ⟨aq,b⟩ | ⟨aq,b⟩
   ·refine CT aq<|Ws<|Wg<|A<|A<|We ?_
    cases b
    obtain rfl:=a1
    cases h
    refine WP.ret (Out.two rfl S rfl rfl ?_)
    exact rfl
   refine CF aq<|Wk<|Wg<|M' al<|M<|M' ae<|M<|B b fun a3 bq b=>Ja bq<|Mh a3 48 ?_
   refine WL.w (R.i64of8 (a:=a3 - 48) rfl Tryz.underlying5 Tryz.underlying3)<|Li<|Lg<|A<|We<|Wg<|Lg' af rfl<|M<|We ?_
   cases b
   exact ⟨rfl,⟨ab,ae,rfl,am,an,rfl,aa,S⟩⟩
  refine CF ao<|Wx ?_
  cases b
  obtain rfl:=a1
  exact ⟨ab,al,S⟩
 intro f w hM
 rcases ak with ax | e
 ·obtain ⟨ay,a4,S⟩:=hM
  refine Ws<|Ws<|Wg<|M' a4<|Lc<|We ?_
  rcases condE h with ⟨ar,h⟩ | ⟨ar,h⟩
  ·refine CT ar<|Ws<|Wg<|A<|A<|We ?_
   cases h
   refine WP.ret (Out.two rfl S rfl rfl ?_)
   exact rfl
  refine CF ar<|Wk<|Ws<|Wg<|M' a4<|A<|A<|We ?_
  cases h
  refine WP.ret (Out.two rfl S rfl rfl ?_)
  exact rfl
 exact hM.elim
end Go.Proofs
