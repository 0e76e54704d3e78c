/- A part. -/
import Derived.Test.YtipgfplekgdoiaaGreatDoorEng38
import Derived.Test.YtipgfplekgdoiaaGreatDoorEng36
import Derived.Test.YtipgfplekgdoiaaGreatDoorGenK11
namespace Go.Proofs
set_option maxHeartbeats 4000000
set_option maxRecDepth 10000
open Go.Eng Go.Eng.Pure
set_option linter.unusedVariables false
theorem zHe {p:World} {o:Hp} (hw:Holds p o) (b:UInt8) {r:Bool} (h:zDi b=some r) :
  Cb Tryz.prog 148 [(byt b)] p o r:=by
 refine CM 34 Tryz.func148 hw fun S=>?_
 refine Ws<|Wg<|A<|We<|Ws<|Ws<|Wg<|M<|Md b 97<|M ?_
 refine WL.grp 3 [7,8] 9 (boo ((decide (97≤b))&&(decide (b≤122)))) ?_ ?_
 ·rcases boolE (decide (97≤b)) with j | j
  ·refine Gy j<|M<|Gy j<|Mb b 122<|Pt j ?_
   exact We ⟨(andT j),ag,rfl⟩
  refine Gn j<|Gn j<|Pf j ?_
  exact We ⟨(andF j),ag,rfl⟩
 intro us
 refine M ?_
 refine WL.grp 7 [11,12,13,14,15,16] 17 (boo (((decide (97≤b))&&(decide (b≤122)))||((decide (65≤b))&&(decide (b≤90))))) ?_ ?_
 ·rcases boolE ((decide (97≤b))&&(decide (b≤122))) with c | c
  ·refine Gn c<|Gn c<|Gn c<|WL.gund rfl rfl<|WL.gund rfl rfl<|Gn c<|Pt c ?_
   exact We ⟨(orT c),ag,rfl⟩
  refine Gy c<|M<|Gy c<|Md b 65<|Gy c<|M ?_
  refine WL.grp 3 [14,15] 16 (boo ((decide (65≤b))&&(decide (b≤90)))) ?_ ?_
  ·rcases boolE (decide (65≤b)) with k | k
   ·refine Gy k<|M<|Gy k<|Mb b 90<|Gy c<|Pt k ?_
    exact We ⟨(andT k),ag,rfl⟩
   refine Gn k<|Gn k<|Gy c<|Pf k ?_
   exact We ⟨(andF k),ag,rfl⟩
  intro us
  refine Pf c ?_
  exact We ⟨(orF c),ag,rfl⟩
 intro us
 refine M ?_
 refine WL.grp 7 [19,20,21,22,23,24] 25 (boo ((((decide (97≤b))&&(decide (b≤122)))||((decide (65≤b))&&(decide (b≤90))))||((decide (48≤b))&&(decide (b≤57))))) ?_ ?_
 ·rcases boolE (((decide (97≤b))&&(decide (b≤122)))||((decide (65≤b))&&(decide (b≤90)))) with d | d
  ·refine Gn d<|Gn d<|Gn d<|WL.gund rfl rfl<|WL.gund rfl rfl<|Gn d<|Pt d ?_
   exact We ⟨(orT d),ag,rfl⟩
  refine Gy d<|M<|Gy d<|Md b 48<|Gy d<|M ?_
  refine WL.grp 3 [22,23] 24 (boo ((decide (48≤b))&&(decide (b≤57)))) ?_ ?_
  ·rcases boolE (decide (48≤b)) with l | l
   ·refine Gy l<|M<|Gy l<|Mb b 57<|Gy d<|Pt l ?_
    exact We ⟨(andT l),ag,rfl⟩
   refine Gn l<|Gn l<|Gy d<|Pf l ?_
   exact We ⟨(andF l),ag,rfl⟩
  intro us
  refine Pf d ?_
  exact We ⟨(orF d),ag,rfl⟩
 intro us
 refine We ?_
 rcases condE h with ⟨t,h⟩ | ⟨t,h⟩
 ·refine CT t<|Ws<|Wg<|A<|We ?_
  exact WP.ret (Rb h S)
 refine CF t<|Wk<|Ws<|Ws<|Wg<|A<|We<|B h fun u ae h=>WP.cut (fun f w=>match u with | .inl _=>∃ (aa:Hp),St p o w aa [] | .inr _=>False) ?_ ?_
 ·refine Wb ?_
  refine WP.loopM (zCR b) (fun s f w=>match s with | ab=>∃ (q:Hp),f 0=(byt b)∧f 3=(int ab)∧St p o w q []) 0 u ae ?_ ?_
  ·exact ⟨o,rfl,rfl,S⟩
  intro ab f w hI ai i ac
  obtain ⟨q,ad,v,S⟩:=hI
  refine Ws<|Ws<|Wg<|M' v<|La<|We ?_
  rcases condE i with ⟨x,i⟩ | ⟨x,i⟩
  ·refine CT x<|Wk<|Ws<|Wb<|Ws<|Wg<|M' v<|B i fun af ah i=>Ja ah<|M' ad<|Me af b<|We ?_
   rcases condE i with ⟨z,i⟩ | ⟨z,i⟩
   ·refine CT z<|Ws<|Wg<|A<|We ?_
    obtain rfl:=oi i
    obtain rfl:=ac
    exact WP.ret (Rb h S)
   refine CF z<|Wk<|Wg<|M' v<|Lg<|A<|We ?_
   obtain rfl:=oi i
   exact ⟨rfl,⟨q,ad,rfl,S⟩⟩
  refine CF x<|Wx ?_
  obtain rfl:=oi i
  obtain rfl:=ac
  exact ⟨q,S⟩
 intro f w hM
 rcases u with _ | e
 ·obtain ⟨aa,S⟩:=hM
  refine Ws<|Wg<|A<|We ?_
  exact WP.ret (Rb h S)
 exact hM.elim
theorem zCI {i:World} {c:Hp} (hw:Holds i c) (d:Str) {r:Bool} (h:zB5 d=some r) :
  Cb Tryz.prog 123 [(str d)] i c r:=by
 refine CM 17 Tryz.func123 hw fun S=>?_
 refine Ws<|Wg<|A<|We<|Ws<|Ws<|Wg<|A<|We<|B h fun k x h=>WP.cut (fun f w=>match k with | .inl _=>∃ (t:Hp),f 0=(str d)∧St i c w t [] | .inr _=>False) ?_ ?_
 ·refine Wb ?_
  refine WP.loopM (zC5 d) (fun s f w=>match s with | u=>∃ (l:Hp),f 0=(str d)∧f 3=(int u)∧St i c w l []) 0 k x ?_ ?_
  ·exact ⟨c,rfl,rfl,S⟩
  intro u f w hI y7 b v
  obtain ⟨l,j,o,S⟩:=hI
  refine Ws<|Ws<|Wg<|M' o<|M' j<|Ns<|La<|We ?_
  rcases condE b with ⟨p,b⟩ | ⟨p,b⟩
  ·refine CT p<|Wk<|Ws<|Wb<|Ws<|Wg<|M' j<|M' o<|B b fun z aa b=>Ja aa<|B b fun af ab b=>W.call S rfl (zHe S.holds z ab) ?_
   rintro ah ai ac aj S rfl
   refine No<|We ?_
   rcases condE b with ⟨q,b⟩ | ⟨q,b⟩
   ·refine CT q<|Ws<|Wg<|A<|We ?_
    obtain rfl:=oi b
    obtain rfl:=v
    exact WP.ret (Rb h S)
   refine CF q<|Wk<|Wg<|M' o<|Lg<|A<|We ?_
   obtain rfl:=oi b
   exact ⟨rfl,⟨ac,j,rfl,S⟩⟩
  refine CF p<|Wx ?_
  obtain rfl:=oi b
  obtain rfl:=v
  exact ⟨l,j,S⟩
 intro f w hM
 rcases k with _ | e
 ·obtain ⟨t,h6,S⟩:=hM
  refine Ws<|Wg<|M' h6<|Nb<|A<|We ?_
  exact WP.ret (Rb h S)
 exact hM.elim
theorem zBm {v:World} {q:Hp} (hw:Holds v q) (d:Str) {r:Str} (h:zBR d=some r) :
  Cs Tryz.prog 115 [(str d)] v q r:=by
 refine CM 33 Tryz.func115 hw fun S=>?_
 refine Ws<|Wg<|A<|We<|Ws<|Wg<|M<|W.bytes (s:=d) S rfl Tryz.underlying9 Tryz.underlying128 Tryz.underlying5 ?_
 intro x c2 w3 ax S
 refine A<|We<|Ws<|Ws<|Wg<|A<|We<|B h fun t al h=>WP.cut (fun f w=>∃ (ad:Hp),f 3=(.slice (some ⟨x,0,none⟩) d.length c2)∧t.length=d.length∧St v q w ad [.box x 5 (t.map byt)]) ?_ ?_
 ·refine Wb ?_
  refine WP.loopM (zC2 d) (fun s f w=>match s with | (z,k)=>∃ (u:Hp),f 3=(.slice (some ⟨x,0,none⟩) d.length c2)∧f 4=(int z)∧k.length=d.length∧St v q w u [.box x 5 (k.map byt)]) (0,d) t al ?_ ?_
  ·exact ⟨q,rfl,rfl,rfl,S⟩
  intro s f w hI ay b am
  obtain ⟨z,k⟩:=s
  obtain ⟨u,l,p,o,S⟩:=hI
  refine Ws<|Ws<|Wg<|M' p<|M' l<|Nv<|La<|We ?_
  rcases condE b with ⟨aa,b⟩ | ⟨aa,b⟩
  ·refine CT aa<|Wk<|Ws<|Wb<|Ws<|Wg<|M' l<|M' p<|B b fun az ae b=>?_
   have a0:=(zAn ae).2
   refine WL.w (R.idxB rfl rfl el128 (by have:=(zAn ae).2; have hl:k.length=d.length:=o; omega))<|B b fun af an b=>?_
   refine WL.w (R.loadB (i:=0) S rfl rfl lay5 (zAn an).1)<|Md af 65<|M<|B b fun ao j b=>WL.grp 6 [19,20,21,22,23] 24 (boo ao) ?_ ?_
   ·rcases boolE (decide (65≤af)) with c | c
    ·replace j:=condT j c
     refine Gy c<|M' l<|Gy c<|M' p<|Gy c<|B j fun a1 ah j=>?_
     have a2:=(zAn ah).2
     refine WL.w (R.idxB rfl rfl el128 (by have:=(zAn ah).2; have hl:k.length=d.length:=o; omega))<|Gy c<|B j fun ap aq j=>?_
     refine WL.w (R.loadB (i:=0) S rfl rfl lay5 (zAn aq).1)<|Gy c<|Mb ap 90<|Pt c ?_
     exact We ⟨(ob j),ag,rfl⟩
    replace j:=condF j c
    refine Gn c<|Gn c<|Gn c<|Gn c<|Gn c<|Pf c ?_
    exact We ⟨(ob j),ag,rfl⟩
   intro us
   refine We ?_
   rcases condE b with ⟨ab,b⟩ | ⟨ab,b⟩
   ·refine CT ab<|Wg<|M' l<|M' p<|B b fun a3 ai b=>?_
    have a4:=(zAn ai).2
    refine WL.w (R.idxB rfl rfl el128 (by have:=(zAn ai).2; have hl:k.length=d.length:=o; omega))<|B b fun aj ar b=>?_
    refine WL.w (R.loadB (i:=0) S rfl rfl lay5 (zAn ar).1)<|Mg aj 32<|B b fun a5 ak b=>?_
    have a6:=(zAn ak).2
    refine WL.w (R.idxB rfl rfl el128 (by have:=(zAn ak).2; have hl:k.length=d.length:=o; omega)) ?_
    refine W.store (i:=0) ((k.set z.toNat (aj+32)).map byt) S rfl rfl rfl lay5 rfl rfl (by rw [List.length_map]; omega) (zJW _ _ _ (by omega)) ?_
    intro a7 S
    refine We<|Wg<|M' p<|Lg<|A<|We ?_
    obtain rfl:=oi b
    exact ⟨rfl,⟨u,l,rfl,(List.length_set.trans o),S⟩⟩
   refine CF ab<|Wk<|Wg<|M' p<|Lg<|A<|We ?_
   obtain rfl:=oi b
   exact ⟨rfl,⟨u,l,rfl,o,S⟩⟩
  refine CF aa<|Wx ?_
  obtain rfl:=oi b
  obtain rfl:=am
  exact ⟨u,l,o,S⟩
 rintro f w ⟨ad,au,av,S⟩
 refine Ws<|Wg<|M' au ?_
 refine WL.w (R.strB (i:=0) (s:=t) S (by rw [show t.length=d.length from av]; exact rfl) rfl Tryz.underlying128 Tryz.underlying9 Tryz.underlying5)<|A<|We ?_
 exact WP.ret (Rs h S)
theorem zEt {i:World} {j:Hp} (hw:Holds i j) (k:Int) {r:Str} (h:zCr k=some r) :
  Cs Tryz.prog 119 [(int k)] i j r:=by
 refine CM 12 Tryz.func119 hw fun S=>?_
 refine Ws<|Wg<|A<|We<|Ws<|Ws<|Wg<|M<|We<|Wb<|Ws<|Wg ?_
 refine Le<|A<|We ?_
 rcases condE h with ⟨b,h⟩ | ⟨b,h⟩
 ·refine CT b<|Ws<|Wg<|A<|We ?_
  exact WP.ret (Rs h S)
 refine CF b<|Ws<|Wg<|Le<|A<|We ?_
 rcases condE h with ⟨c,h⟩ | ⟨c,h⟩
 ·refine CT c<|Ws<|Wg<|A<|We ?_
  exact WP.ret (Rs h S)
 refine CF c<|Ws<|Wg<|Le<|A<|We ?_
 rcases condE h with ⟨d,h⟩ | ⟨d,h⟩
 ·refine CT d<|Ws<|Wg<|A<|We ?_
  exact WP.ret (Rs h S)
 refine CF d<|Ws<|Wg<|Le<|A<|We ?_
 rcases condE h with ⟨f,h⟩ | ⟨f,h⟩
 ·refine CT f<|Ws<|Wg<|A<|We ?_
  exact WP.ret (Rs h S)
 refine CF f<|Wk<|Ws<|Wg<|A<|We ?_
 exact WP.ret (Rs h S)
theorem zDc {j:World} {d:Hp} (hw:Holds j d) (f:Str) (i:Str) {r:Bool} (h:zDS f i=some r) :
  Cb Tryz.prog 90 [(str f),(str i)] j d r:=by
 refine CM 17 Tryz.func90 hw fun S=>?_
 refine Ws<|Wg<|A<|We<|Ws<|Wg<|M<|Ns<|M<|Ns<|Le<|M<|B h fun k c h=>WL.grpw 6 [11,12,13,14,15] 16 (boo k) (fun w=>∃ H':Hp,d.le H'∧St j d w H' []) ?_ ?_
 ·rcases boolE ((f.length:Int)==(i.length:Int)) with b | b
  ·replace c:=condT c b
   refine Gy b<|M<|Gy b<|B c fun u l c=>W.call S rfl (zBm S.holds f l) ?_
   rintro v x z o S rfl
   refine Gy b<|M<|Gy b<|B c fun r8 p c=>W.call S rfl (zBm S.holds i p) ?_
   rintro v9 ac q t S rfl
   refine Gy b<|Na<|Pt b ?_
   exact We ⟨(ob c),ag,⟨q,(o.trans t),S⟩⟩
  replace c:=condF c b
  refine Gn b<|Gn b<|Gn b<|Gn b<|Gn b<|Pf b ?_
  exact We ⟨(ob c),ag,⟨d,lr,S⟩⟩
 intro us ad ⟨ae,af,S⟩
 refine A<|We ?_
 exact WP.ret (Rb h S)
theorem zHm {k:World} {l:Hp} (hw:Holds k l) (c:Str) {r:Int} (h:zFy c=some r) :
  Ci Tryz.prog 89 [(str c)] k l r:=by
 refine CM 13 Tryz.func89 hw fun S=>?_
 refine Ws<|Wg<|A<|We<|Ws<|Ws<|Wg<|A<|We<|Wb<|WP.loopRd 5<|RD.succ ?_
 refine Ws<|Ws<|Wg<|M ?_
 refine WL.w (v:=boo true) (R.ofEq (R.leq rfl rfl) rfl)<|We<|WP.condT (b:=true) rfl rfl<|Wk<|Ws<|Wb<|Ws<|Wg ?_
 refine M<|M<|B h fun o p h=>W.call S rfl (zEt S.holds 1 p) ?_
 rintro v2 w3 H4 aj S rfl
 refine B h fun r6 q h=>W.call S rfl (zDc S.holds c o q) ?_
 rintro v7 w8 H9 ao S rfl
 refine We ?_
 rcases condE h with ⟨d,h⟩ | ⟨d,h⟩
 ·refine CT d<|Ws<|Wg<|M<|A<|We ?_
  exact WP.ret (Ri h S)
 refine CF d<|Wk<|Wg<|M ?_
 refine WL.w (v:=int 2) (R.ofEq (R.add rfl rfl) rfl)<|A<|We<|RD.succ<|Ws<|Ws<|Wg<|M ?_
 refine WL.w (v:=boo true) (R.ofEq (R.leq rfl rfl) rfl)<|We<|WP.condT (b:=true) rfl rfl<|Wk<|Ws<|Wb<|Ws<|Wg<|M<|M<|B h fun t u h=>W.call S rfl (zEt S.holds 2 u) ?_
 rintro ap aq ar au S rfl
 refine B h fun av x h=>W.call S rfl (zDc S.holds c t x) ?_
 rintro aw ax ay az S rfl
 refine We ?_
 rcases condE h with ⟨f,h⟩ | ⟨f,h⟩
 ·refine CT f<|Ws<|Wg<|M<|A<|We ?_
  exact WP.ret (Ri h S)
 refine CF f<|Wk<|Wg<|M ?_
 refine WL.w (v:=int 3) (R.ofEq (R.add rfl rfl) rfl)<|A<|We<|RD.succ<|Ws<|Ws<|Wg<|M ?_
 refine WL.w (v:=boo true) (R.ofEq (R.leq rfl rfl) rfl)<|We<|WP.condT (b:=true) rfl rfl<|Wk<|Ws<|Wb<|Ws<|Wg<|M<|M<|B h fun z aa h=>W.call S rfl (zEt S.holds 3 aa) ?_
 rintro a0 a1 a2 a3 S rfl
 refine B h fun a4 ab h=>W.call S rfl (zDc S.holds c z ab) ?_
 rintro a5 a6 a7 a8 S rfl
 refine We ?_
 rcases condE h with ⟨i,h⟩ | ⟨i,h⟩
 ·refine CT i<|Ws<|Wg<|M<|A<|We ?_
  exact WP.ret (Ri h S)
 refine CF i<|Wk<|Wg<|M ?_
 refine WL.w (v:=int 4) (R.ofEq (R.add rfl rfl) rfl)<|A<|We<|RD.succ<|Ws<|Ws<|Wg<|M ?_
 refine WL.w (v:=boo true) (R.ofEq (R.leq rfl rfl) rfl)<|We<|WP.condT (b:=true) rfl rfl<|Wk<|Ws<|Wb<|Ws<|Wg<|M<|M<|B h fun ac ad h=>W.call S rfl (zEt S.holds 4 ad) ?_
 rintro a9 ba bb bc S rfl
 refine B h fun bd ae h=>W.call S rfl (zDc S.holds c ac ae) ?_
 rintro be bf bg bh S rfl
 refine We ?_
 rcases condE h with ⟨j,h⟩ | ⟨j,h⟩
 ·refine CT j<|Ws<|Wg<|M<|A<|We ?_
  exact WP.ret (Ri h S)
 refine CF j<|Wk<|Wg<|M ?_
 refine WL.w (v:=int 5) (R.ofEq (R.add rfl rfl) rfl)<|A<|We<|RD.succ<|Ws<|Ws<|Wg<|M ?_
 refine WL.w (v:=boo false) (R.ofEq (R.leq rfl rfl) rfl)<|We<|WP.condF (b:=false) rfl rfl<|Wx<|Ws<|Wg<|A<|We ?_
 exact WP.ret (Ri h S)
theorem zKL {w0:World} {x:Hp} (hw:Holds w0 x) (z:Str) (q:UInt8) {r:(List Str)} (h:zGe z q=some r) :
  Con Tryz.prog 186 [(str z),(byt q)] w0 x (fun H' v=>Sl H' v r):=by
 refine CM 57 Tryz.func186 hw fun S=>?_
 refine Ws<|Wg<|A<|We<|Ws<|Wg<|A<|We<|Ws<|Wg<|A<|A ?_
 refine We<|Ws<|Ws<|Wg<|A<|We ?_
 have S:=S.addNil 9 1
 refine B h fun ah ay h=>WP.cut (fun f w=>match ah with | (ai,ar)=>∃ (aj:Hp) (ae:Value),f 0=(str z)∧f 5=ae∧f 6=(int ar)∧Sl aj ae ai∧St w0 x w aj [.row ae 9 1 ai.length]) ?_ ?_
 ·refine Wb ?_
  refine WP.loopM (zAW z q) (fun s f w=>match s with | (ak,au,af,av)=>∃ (t:Hp) (o:Value),f 0=(str z)∧f 1=(byt q)∧f 5=o∧f 6=(int au)∧f 7=(boo af)∧f 8=(int av)∧Sl t o ak∧St w0 x w t [.row o 9 1 ak.length]) (([]:List Str),0,false,0) ah ay ?_ ?_
  ·exact ⟨x,.slice none 0 0,rfl,rfl,rfl,rfl,rfl,rfl,Sl.nil,S⟩
  intro s f w hI bo b az
  obtain ⟨ak,au,af,av⟩:=s
  obtain ⟨t,o,d,h3,h7,h9,u,j,k,S⟩:=hI
  refine Ws<|Ws<|Wg<|M' j<|M' d<|Ns<|La<|We ?_
  rcases condE b with ⟨al,b⟩ | ⟨al,b⟩
  ·refine CT al<|Wk<|Ws<|Wb<|Wb<|Ws<|Wg<|M' u<|M<|B b fun a0 p b=>WL.grp 5 [18,19,20,21] 22 (boo a0) ?_ ?_
   ·rcases boolE af with c | c
    ·replace p:=condT p c
     refine Gy c<|M' d<|Gy c<|M' j<|Gy c<|B p fun a1 a2 p=>Ja a2<|Gy c<|Me a1 92<|Pt c ?_
     exact We ⟨(ob p),ag,rfl⟩
    replace p:=condF p c
    refine Gn c<|Gn c<|Gn c<|Gn c<|Pf c ?_
    exact We ⟨(ob p),ag,rfl⟩
   intro us
   refine A<|We ?_
   rcases condE b with ⟨am,b⟩ | ⟨am,b⟩
   ·refine CT am<|Wg<|M' j<|Lg<|A<|We<|Wg<|M<|Lg<|A<|We ?_
    obtain rfl:=oi b
    exact ⟨rfl,⟨t,o,d,h3,h7,h9,u,rfl,k,S⟩⟩
   refine CF am<|Ws<|Wg<|M' d<|M' j<|B b fun a3 a4 b=>Ja a4<|Me a3 34<|A<|We ?_
   rcases condE b with ⟨an,b⟩ | ⟨an,b⟩
   ·refine CT an<|Wg<|M' u<|No<|A<|We<|Wg<|M' j<|Lg<|A<|We ?_
    obtain rfl:=oi b
    exact ⟨rfl,⟨t,o,d,h3,h7,h9,rfl,rfl,k,S⟩⟩
   refine CF an<|Ws<|Wg<|M' d<|M' j<|B b fun ao a5 b=>Ja a5<|M' h3<|Me ao q<|M ?_
   refine WL.grp 3 [39,40] 41 (boo ((ao==q)&&(!af))) ?_ ?_
   ·rcases boolE (ao==q) with l | l
    ·refine Gy l<|M' u<|Gy l<|No<|Pt l ?_
     exact We ⟨(andT l),ag,rfl⟩
    refine Gn l<|Gn l<|Pf l ?_
    exact We ⟨(andF l),ag,rfl⟩
   intro us
   refine A<|We ?_
   rcases condE b with ⟨ap,b⟩ | ⟨ap,b⟩
   ·refine CT ap<|Ws<|Wg<|M' h7<|M' d<|M' h9<|M' j<|B b fun aw a6 b=>Jb a6<|W.bslice (α:=Str) [(str aw)] ([aw]:List Str) S el34 rfl rfl rfl (by decide) (Go.Eng.encS ⟨rfl,rfl⟩ enc0) ?_
    intro bp bq br a7 a8 S
    have k:=k.up a7
    refine B b fun bs a9 b=>W.app (α:=Str) (i:=1) S el34 rfl rfl rfl k a8 a9 ?_
    intro ba bt bb bc bd S
    have k:=k.up bc
    refine A<|We<|Wg<|M' j<|Lg<|A<|We<|Wg<|M' j<|Lg<|A<|We ?_
    obtain rfl:=oi b
    exact ⟨rfl,⟨bb,ba,d,h3,rfl,rfl,u,rfl,bd,(S.pk [1])⟩⟩
   refine CF ap<|Wk<|Wg<|M' j<|Lg<|A<|We ?_
   obtain rfl:=oi b
   exact ⟨rfl,⟨t,o,d,h3,h7,h9,u,rfl,k,S⟩⟩
  refine CF al<|Wx ?_
  obtain rfl:=oi b
  obtain rfl:=az
  exact ⟨t,o,d,h7,h9,k,S⟩
 intro f w hM
 obtain ⟨ai,ar⟩:=ah
 obtain ⟨aj,ae,be,bf,bg,aq,S⟩:=hM
 refine Ws<|Wg<|M' bf<|M' be<|M' bg<|B h fun ax bh h=>Jc bh<|W.bslice (α:=Str) [(str ax)] ([ax]:List Str) S el34 rfl rfl rfl (by decide) (Go.Eng.encS ⟨rfl,rfl⟩ enc0) ?_
 intro bu bv bw bi bj S
 have aq:=aq.up bi
 refine B h fun bx bk h=>W.app (α:=Str) (i:=1) S el34 rfl rfl rfl aq bj bk ?_
 intro bz b0 b1 b2 bn S
 refine A<|We ?_
 exact WP.ret (Rl h S bn)
theorem zHD {d:World} {f:Hp} (hw:Holds d f) (c:UInt8) {r:Bool} (h:zF6 c=some r) :
  Cb Tryz.prog 196 [(byt c)] d f r:=by
 refine CM 9 Tryz.func196 hw fun S=>?_
 refine Ws<|Wg<|A<|We<|Ws<|Wg<|M<|Me c 32<|M ?_
 refine WL.grp 3 [6,7] 8 (boo ((c==32)||(c==9))) ?_ ?_
 ·rcases boolE (c==32) with b | b
  ·refine Gn b<|Gn b<|Pt b ?_
   exact We ⟨(orT b),ag,rfl⟩
  refine Gy b<|M<|Gy b<|Me c 9<|Pf b ?_
  exact We ⟨(orF b),ag,rfl⟩
 intro us
 refine A<|We ?_
 exact WP.ret (Rb h S)
theorem zF7 {o:World} {j:Hp} (hw:Holds o j) (v:Str) {r:Str} (h:zE1 v=some r) :
  Cs Tryz.prog 152 [(str v)] o j r:=by
 refine CM 30 Tryz.func152 hw fun S=>?_
 refine Ws<|Wg<|A<|We<|Ws<|B h fun x aj h=>WP.cut (fun f w=>∃ (z:Hp),f 0=(str x)∧St o j w z []) ?_ ?_
 ·refine Wb ?_
  refine WP.loopM (zEn) (fun s f w=>match s with | aa=>∃ (q:Hp),f 0=(str aa)∧St o j w q []) v x aj ?_ ?_
  ·exact ⟨j,rfl,S⟩
  intro aa f w hI y7 k ak
  obtain ⟨q,t,S⟩:=hI
  refine Ws<|Ws<|Wg<|M' t<|Ns<|Lc<|M<|B k fun al d k=>WL.grpw 4 [7,8,9] 10 (boo al) (fun w=>∃ H':Hp,q.le H'∧St o j w H' []) ?_ ?_
  ·rcases boolE (decide (0<(aa.length:Int))) with c | c
   ·replace d:=condT d c
    refine Gy c<|M' t<|Gy c<|B d fun am an d=>Ja an<|Gy c<|B d fun a6 ao d=>W.call S rfl (zHD S.holds am ao) ?_
    rintro a7 a8 ap aq S rfl
    refine Pt c ?_
    exact We ⟨(ob d),ag,⟨ap,aq,S⟩⟩
   replace d:=condF d c
   refine Gn c<|Gn c<|Gn c<|Pf c ?_
   exact We ⟨(ob d),ag,⟨q,lr,S⟩⟩
  intro us a9 ⟨ae,ba,S⟩
  refine We ?_
  rcases condE k with ⟨ab,k⟩ | ⟨ab,k⟩
  ·refine CT ab<|Wk<|Wb<|Wg<|M' t<|B k fun bb ar k=>Jc ar<|A<|We ?_
   obtain rfl:=oi k
   exact ⟨rfl,⟨ae,rfl,S⟩⟩
  refine CF ab<|Wx ?_
  obtain rfl:=oi k
  obtain rfl:=ak
  exact ⟨ae,t,S⟩
 rintro f w ⟨z,h6,S⟩
 refine Ws<|B h fun af av h=>WP.cut (fun f w=>∃ (ah:Hp),f 0=(str af)∧St o j w ah []) ?_ ?_
 ·refine Wb ?_
  refine WP.loopM (zEv) (fun s f w=>match s with | ac=>∃ (u:Hp),f 0=(str ac)∧St o j w u []) x af av ?_ ?_
  ·exact ⟨z,h6,S⟩
  intro ac f w hI bc l aw
  obtain ⟨u,p,S⟩:=hI
  refine Ws<|Ws<|Wg<|M' p<|Ns<|Lc<|M<|B l fun ax i l=>WL.grpw 7 [17,18,19,20,21,22] 23 (boo ax) (fun w=>∃ H':Hp,u.le H'∧St o j w H' []) ?_ ?_
  ·rcases boolE (decide (0<(ac.length:Int))) with b | b
   ·replace i:=condT i b
    refine Gy b<|M' p<|Gy b<|M' p<|Gy b<|Ns<|Gy b<|Lh<|Gy b<|B i fun ay az i=>Ja az<|Gy b<|B i fun bd a0 i=>W.call S rfl (zHD S.holds ay a0) ?_
    rintro be bf a1 a2 S rfl
    refine Pt b ?_
    exact We ⟨(ob i),ag,⟨a1,a2,S⟩⟩
   replace i:=condF i b
   refine Gn b<|Gn b<|Gn b<|Gn b<|Gn b<|Gn b<|Pf b ?_
   exact We ⟨(ob i),ag,⟨u,lr,S⟩⟩
  intro us bg ⟨ai,bh,S⟩
  refine We ?_
  rcases condE l with ⟨ad,l⟩ | ⟨ad,l⟩
  ·refine CT ad<|Wk<|Wb<|Wg<|M' p<|M' p<|Ns<|Lh<|B l fun bi a3 l=>Jd a3<|A<|We ?_
   obtain rfl:=oi l
   exact ⟨rfl,⟨ai,rfl,S⟩⟩
  refine CF ad<|Wx ?_
  obtain rfl:=oi l
  obtain rfl:=aw
  exact ⟨ai,p,S⟩
 rintro f w ⟨ah,a4,S⟩
 refine Ws<|Wg<|M' a4<|A<|We ?_
 exact WP.ret (Rs h S)
theorem zFa {i:World} {c:Hp} (hw:Holds i c) (j:Str) (d:UInt8) (o:Int) {r:Int} (h:zDM j d o=some r) :
  Ci Tryz.prog 225 [(str j),(byt d),(int o)] i c r:=by
 refine CM 21 Tryz.func225 hw fun S=>?_
 refine Ws<|Wg<|A<|We<|Ws<|Ws<|Wg<|M<|A<|We<|B h fun p ab h=>WP.cut (fun f w=>match p with | .inl _=>∃ (v:Hp),St i c w v [] | .inr _=>False) ?_ ?_
 ·refine Wb ?_
  refine WP.loopM (zBn j d) (fun s f w=>match s with | x=>∃ (k:Hp),f 0=(str j)∧f 1=(byt d)∧f 7=(int x)∧St i c w k []) o p ab ?_ ?_
  ·exact ⟨c,rfl,rfl,rfl,S⟩
  intro x f w hI y7 b z
  obtain ⟨k,q,h3,l,S⟩:=hI
  refine Ws<|Ws<|Wg<|M' l<|M' q<|Ns<|La<|We ?_
  rcases condE b with ⟨t,b⟩ | ⟨t,b⟩
  ·refine CT t<|Wk<|Ws<|Wb<|Ws<|Wg<|M' q<|M' l<|B b fun ac ad b=>Ja ad<|M' h3<|Me ac d<|We ?_
   rcases condE b with ⟨u,b⟩ | ⟨u,b⟩
   ·refine CT u<|Ws<|Wg<|M' l<|A<|We ?_
    obtain rfl:=oi b
    obtain rfl:=z
    exact WP.ret (Ri h S)
   refine CF u<|Wk<|Wg<|M' l<|Lg<|A<|We ?_
   obtain rfl:=oi b
   exact ⟨rfl,⟨k,q,h3,rfl,S⟩⟩
  refine CF t<|Wx ?_
  obtain rfl:=oi b
  obtain rfl:=z
  exact ⟨k,S⟩
 intro f w hM
 rcases p with _ | e
 ·obtain ⟨v,S⟩:=hM
  refine Ws<|Wg<|A<|We ?_
  exact WP.ret (Ri h S)
 exact hM.elim
theorem zFo {i:World} {j:Hp} (hw:Holds i j) (b:UInt8) {r:Bool} (h:zEE b=some r) :
  Cb Tryz.prog 195 [(byt b)] i j r:=by
 refine CM 17 Tryz.func195 hw fun S=>?_
 refine Ws<|Wg<|A<|We<|Ws<|Wg<|M<|Me b 9<|M ?_
 refine WL.grp 7 [6,7,8,9,10,11] 12 (boo ((b==9)||((decide (32≤b))&&(decide (b≤126))))) ?_ ?_
 ·rcases boolE (b==9) with c | c
  ·refine Gn c<|Gn c<|Gn c<|WL.gund rfl rfl<|WL.gund rfl rfl<|Gn c<|Pt c ?_
   exact We ⟨(orT c),ag,rfl⟩
  refine Gy c<|M<|Gy c<|Md b 32<|Gy c<|M ?_
  refine WL.grp 3 [9,10] 11 (boo ((decide (32≤b))&&(decide (b≤126)))) ?_ ?_
  ·rcases boolE (decide (32≤b)) with d | d
   ·refine Gy d<|M<|Gy d<|Mb b 126<|Gy c<|Pt d ?_
    exact We ⟨(andT d),ag,rfl⟩
   refine Gn d<|Gn d<|Gy c<|Pf d ?_
   exact We ⟨(andF d),ag,rfl⟩
  intro us
  refine Pf c ?_
  exact We ⟨(orF c),ag,rfl⟩
 intro us
 refine M ?_
 refine WL.grp 3 [14,15] 16 (boo (((b==9)||((decide (32≤b))&&(decide (b≤126))))||(decide (128≤b)))) ?_ ?_
 ·rcases boolE ((b==9)||((decide (32≤b))&&(decide (b≤126)))) with f | f
  ·refine Gn f<|Gn f<|Pt f ?_
   exact We ⟨(orT f),ag,rfl⟩
  refine Gy f<|M<|Gy f<|Md b 128<|Pf f ?_
  exact We ⟨(orF f),ag,rfl⟩
 intro us
 refine A<|We ?_
 exact WP.ret (Rb h S)
theorem zIU {x:World} {q:Hp} (hw:Holds x q) (ad:Str) {r:(Str×Bool)} (h:zDm ad=some r) :
  Con Tryz.prog 226 [(str ad)] x q (fun H' v=>v=(.tuple ⟨[(str r.1),(boo r.2)]⟩)):=by
 refine CM 60 Tryz.func226 hw fun S=>?_
 refine Ws<|Wg<|A<|A<|We<|Ws<|Ws<|Wg<|M<|Ns<|La<|M<|B h fun b4 l h=>WL.grp 4 [10,11,12] 13 (boo b4) ?_ ?_
 ·rcases boolE (decide ((ad.length:Int)<2)) with d | d
  ·replace l:=condT l d
   refine Gn d<|Gn d<|Gn d<|Pt d ?_
   exact We ⟨(ob l),ag,rfl⟩
  replace l:=condF l d
  refine Gy d<|M<|Gy d<|B l fun c3 a1 l=>Ja a1<|Gy d<|Mf c3 34<|Pf d ?_
  exact We ⟨(ob l),ag,rfl⟩
 intro us
 refine M<|B h fun b8 o h=>WL.grp 7 [15,16,17,18,19,20] 21 (boo b8) ?_ ?_
 ·rcases boolE b4 with c | c
  ·replace o:=condT o c
   refine Gn c<|Gn c<|Gn c<|Gn c<|Gn c<|Gn c<|Pt c ?_
   exact We ⟨(ob o),ag,rfl⟩
  replace o:=condF o c
  refine Gy c<|M<|Gy c<|M<|Gy c<|Ns<|Gy c<|Lh<|Gy c<|B o fun c7 a4 o=>Ja a4<|Gy c<|Mf c7 34<|Pf c ?_
  exact We ⟨(ob o),ag,rfl⟩
 intro us
 refine We ?_
 rcases condE h with ⟨ae,h⟩ | ⟨ae,h⟩
 ·refine CT ae<|Ws<|Wg<|A<|A<|We ?_
  obtain rfl:=oi h
  refine WP.ret (Out.two rfl S rfl rfl ?_)
  exact rfl
 refine CF ae<|Wk<|Ws<|Wg<|M<|M<|Ns<|Lh<|B h fun af a5 h=>Jb a5<|A<|We<|Ws<|Wg<|A<|We<|Ws<|Ws<|Wg<|A<|We ?_
 have S:=S.addNil 5 1
 refine B h fun ah a6 h=>WP.cut (fun f w=>match ah with | .inl ai=>∃ (aj:Hp) (ab:Value),f 4=ab∧Sl aj ab ai∧St x q w aj [.row ab 5 1 ai.length] | .inr _=>False) ?_ ?_
 ·refine Wb ?_
  refine WP.loopM (zAi af) (fun s f w=>match s with | (z,aw)=>∃ (t:Hp) (p:Value),f 0=(str af)∧f 4=p∧f 5=(int aw)∧Sl t p z∧St x q w t [.row p 5 1 z.length]) (([]:List UInt8),0) ah a6 ?_ ?_
  ·exact ⟨q,.slice none 0 0,rfl,rfl,rfl,Sl.nil,S⟩
  intro s f w hI bs b ac
  obtain ⟨z,aw⟩:=s
  obtain ⟨t,p,u,ak,aa,j,S⟩:=hI
  refine Ws<|Ws<|Wg<|M' aa<|M' u<|Ns<|La<|We ?_
  rcases condE b with ⟨al,b⟩ | ⟨al,b⟩
  ·refine CT al<|Wk<|Ws<|Wb<|Ws<|Ws<|Wg<|M' u<|M' aa<|B b fun a7 a8 b=>Ja a8<|Me a7 34<|We ?_
   rcases condE b with ⟨am,b⟩ | ⟨am,b⟩
   ·refine CT am<|Ws<|Wg<|A<|A<|We ?_
    obtain rfl:=oi b
    obtain rfl:=ac
    obtain rfl:=oi h
    refine WP.ret (Out.two rfl S rfl rfl ?_)
    exact rfl
   refine CF am<|Wk<|Ws<|Ws<|Wg<|M' u<|M' aa<|B b fun a9 ba b=>Ja ba<|Me a9 92<|We<|B b fun ax k b=>WP.cut (fun f w=>match ax with | .inl ay=>∃ (an:Hp),f 0=(str af)∧f 4=p∧f 5=(int ay)∧Sl an p z∧St x q w an [.row p 5 1 z.length] | .inr _=>False) ?_ ?_
   ·rcases condE k with ⟨ao,k⟩ | ⟨ao,k⟩
    ·refine CT ao<|Ws<|Wg<|M' aa<|Lg<|A<|We<|Ws<|Wg<|M<|M' u<|Ns ?_
     refine Le<|We ?_
     rcases condE k with ⟨ap,k⟩ | ⟨ap,k⟩
     ·refine CT ap<|Ws<|Wg<|A<|A<|We ?_
      obtain rfl:=oi k
      obtain rfl:=oi b
      obtain rfl:=ac
      obtain rfl:=oi h
      refine WP.ret (Out.two rfl S rfl rfl ?_)
      exact rfl
     refine CF ap<|Wk ?_
     obtain rfl:=oi k
     exact ⟨t,u,ak,rfl,j,S⟩
    refine CF ao<|Wk ?_
    obtain rfl:=oi k
    exact ⟨t,u,ak,aa,j,S⟩
   intro f w hM
   rcases ax with ay | e
   ·obtain ⟨an,aq,bb,ar,j,S⟩:=hM
    refine Ws<|Ws<|Wg<|M' aq<|M' ar<|B b fun bc bd b=>Ja bd<|B b fun bt be b=>W.call S rfl (zFo S.holds bc be) ?_
    rintro bu bv bw bf S rfl
    have j:=j.up bf
    refine No<|We ?_
    rcases condE b with ⟨au,b⟩ | ⟨au,b⟩
    ·refine CT au<|Ws<|Wg<|A<|A<|We ?_
     obtain rfl:=oi b
     obtain rfl:=ac
     obtain rfl:=oi h
     refine WP.ret (Out.two rfl S rfl rfl ?_)
     exact rfl
    refine CF au<|Wk<|Wg<|M' bb<|M' aq<|M' ar<|B b fun az bg b=>Ja bg<|W.bslice (α:=UInt8) [(byt az)] ([az]:List UInt8) S el128 rfl rfl rfl (by decide) (Go.Eng.encS ⟨rfl,rfl⟩ enc0) ?_
    intro bx bz b0 bh bi S
    have j:=j.up bh
    refine B b fun b1 bj b=>W.app (α:=UInt8) (i:=1) S el128 rfl rfl rfl j bi bj ?_
    intro bk b2 bn bo bp S
    have j:=j.up bo
    refine A<|We<|Wg<|M' ar<|Lg<|A<|We ?_
    obtain rfl:=oi b
    exact ⟨rfl,⟨bn,bk,aq,rfl,rfl,bp,(S.pk [1])⟩⟩
   exact hM.elim
  refine CF al<|Wx ?_
  obtain rfl:=oi b
  obtain rfl:=ac
  exact ⟨t,p,ak,j,S⟩
 intro f w hM
 rcases ah with ai | e
 ·obtain ⟨aj,ab,bq,br,S⟩:=hM
  refine Ws<|Wg<|M' bq ?_
  refine WL.w (R.strL S br rfl Tryz.underlying128 Tryz.underlying9 Tryz.underlying5)<|A<|A<|We ?_
  obtain rfl:=oi h
  refine WP.ret (Out.two rfl S rfl rfl ?_)
  exact rfl
 exact hM.elim
end Go.Proofs
