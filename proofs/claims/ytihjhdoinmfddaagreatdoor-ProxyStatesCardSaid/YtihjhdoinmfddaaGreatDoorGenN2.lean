/- A part. -/
import Derived.Test.YtihjhdoinmfddaaGreatDoorGenN1
set_option linter.unusedVariables false
set_option linter.unusedSimpArgs false
set_option maxHeartbeats 4000000
set_option maxRecDepth 10000
namespace Go.Proofs
open Go Go.Eng Go.VI Go.Eng.Pure
theorem c331:FK ⟨331,[.str],[(.st 419),.boo],fun x=>zA4 x⟩:=mk (fcons c314 (fcons c149 (fcons c100 (fcons c18 anil)))) (.e) Tryz.func331
theorem c336:FK ⟨336,[.str],[(.st 419),.boo],fun x=>zCV x⟩:=mk (fcons c331 anil) (.e) Tryz.func336
theorem zJ0 {b:World} {c:Hp} (hw:Holds b c) (hG:GlX b c) (d:Str) {r:(GMediaType×Bool)} (h:zCV d=some r) :
  Con Tryz.prog 336 [(str d)] b c (fun H' v=>∃ f:Value,v=(.tuple ⟨[(agg [(str r.1.fType),(str r.1.fSub),f]),(boo r.2)]⟩)∧Sl H' f r.1.fParams):=by
 refine (c336 (xs:=(d)) (y:=r) hw hG.ok hG.gs ⟨_,rfl,rfl⟩ h).mono ?_;rintro _ v ⟨_,rfl,D⟩;obtain ⟨k,_,rfl,K0,⟨i,rfl,j⟩⟩:=D;obtain ⟨_,rfl,⟨_,rfl,K0_0⟩⟩:=K0;obtain rfl:i=_:=j;exact ⟨_,rfl,K0_0⟩
end Go.Proofs
namespace Go.Proofs
open Go.Eng Go.Eng.Pure
theorem zWR:zer Tryz.prog 419=some [(str []),(str []),(.slice none 0 0)]:=kr
theorem zRS:lay Tryz.prog 419=some (true,3):=kr
instance:Lay Tryz.prog 419 (true,3):=⟨zRS⟩
theorem zVW:fld Tryz.prog 419 2=some 2:=kr
instance:Fld Tryz.prog 419 2 2:=⟨zVW⟩
theorem zWk:lay Tryz.prog 403=some (false,1):=kr
instance:Lay Tryz.prog 403 (false,1):=⟨zWk⟩
theorem el403:Elem Tryz.prog 403 407 2:=zFg kr
theorem zRK:lay Tryz.prog 407=some (true,2):=kr
instance:Lay Tryz.prog 407 (true,2):=⟨zRK⟩
theorem zZD:zer Tryz.prog 407=some [(str []),(str [])]:=kr
theorem zU6:fld Tryz.prog 407 0=some 0:=kr
instance:Fld Tryz.prog 407 0 0:=⟨zU6⟩
theorem zC7 {i:World} {c:Hp} (hw:Holds i c) (hG:GlX i c) (j:(List GParam)) (o:(GParam→Option Bool)) {k:Value} {kp_f:FuncId} {cp_f:List Value} (d:Sl c k j) (Fp_f:∀ {w:World} {H:Hp},c.le H→Holds w H→GlX w H→∀ (p:GParam) (rr:Bool),o p=some rr→Con Tryz.prog kp_f ([(agg [(str p.fName),(str p.fValue)])]++cp_f) w H (fun H' v=>v=(boo rr))) {r:Int} (h:zAm j o=some r) :
  Ci Tryz.prog 315 [k,(.func (.func kp_f) #[] cp_f.toArray)] i c r:=by
 refine CM 19 Tryz.func315 hw fun S=>?_
 refine Ws<|Wg<|A<|We<|Ws<|Ws<|Wg<|M<|Nq d<|M<|We<|B h fun t ai h=>WP.cut (fun f w=>match t with | .inl _=>∃ (H7:Hp),St i c w H7 [] | .inr _=>False) ?_ ?_
 ·refine Wb ?_
  refine WP.loopM (zAM j o) (fun s f w=>match s with | ac=>∃ (l:Hp),f 0=k∧f 1=(.func (.func kp_f) #[] cp_f.toArray)∧f 7=(int (j.length:Int))∧f 8=(int ac)∧Sl l k j∧St i c w l []) 0 t ai ?_ ?_
  ·exact ⟨c,rfl,rfl,rfl,rfl,d,S⟩
  intro ac f w hI y8 b ad;obtain ⟨l,h2,h3,h4,u,d,S⟩:=hI;refine Ws<|Wg<|La' u h4<|We<|Ws ?_;rcases condE b with ⟨x,b⟩ | ⟨x,b⟩
  ·refine CT x<|Wk<|Ws<|Wb<|Ws<|Wg<|M' u<|A<|We<|Ws<|Wg<|M' h3 ?_
   refine M' h2<|M<|B b fun z aj b=>W.idx (α:=GParam) d rfl rfl el403 aj ?_
   rintro ap _ ak rfl;refine WL.wz (R.loadHN (vs:=[(str z.fName),(str z.fValue)]) S rfl ak zRK rfl rfl)<|B b fun aq al b=>W.callv S rfl rfl (Fp_f (S.post.le) S.holds (hG.pstX S.post) z _ al) ?_
   rintro au av am an S rfl;have d:=d.up an;refine We ?_;rcases condE b with ⟨aa,b⟩ | ⟨aa,b⟩
   ·refine CT aa<|Ws<|Wg<|M<|A<|We ?_
    obtain rfl:=oi b;obtain rfl:=ad;exact WP.ret (Ri h S)
   refine CF aa<|Wk<|Wg<|Lg' u rfl<|M<|We ?_;obtain rfl:=oi b;exact ⟨rfl,⟨am,h2,h3,h4,rfl,d,S⟩⟩
  refine CF x<|Wx ?_;obtain rfl:=oi b;obtain rfl:=ad;exact ⟨l,S⟩
 intro f w hM;rcases t with _ | e
 ·obtain ⟨H7,S⟩:=hM
  refine Ws<|Wg<|A<|We ?_;exact WP.ret (Ri h S)
 exact hM.elim
theorem zCo {c:World} {b:Hp} (hw:Holds c b) (hG:GlX c b) (d:(List GParam)) (f:(GParam→Option Bool)) {j:Value} {kp_f:FuncId} {cp_f:List Value} (k:Sl b j d) (Fp_f:∀ {w:World} {H:Hp},b.le H→Holds w H→GlX w H→∀ (i:GParam) (rr:Bool),f i=some rr→Con Tryz.prog kp_f ([(agg [(str i.fName),(str i.fValue)])]++cp_f) w H (fun H' v=>v=(boo rr))) {r:Bool} (h:zAR d f=some r) :
  Cb Tryz.prog 393 [j,(.func (.func kp_f) #[] cp_f.toArray)] c b r:=by
 refine CM 9 Tryz.func393 hw fun S=>?_
 refine Ws<|Wg<|A<|We<|Ws<|Wg<|M<|M<|B h fun o l h=>W.call S rfl (zC7 S.holds (hG.pstX S.post) d f k (fun hle=>Fp_f (Hp.le.trans S.post.le hle)) l) ?_
 rintro p t u x S rfl;refine Ld<|A<|We ?_;exact WP.ret (Rb h S)
theorem zHQ {d:World} {c:Hp} (hw:Holds d c) (hG:GlX d c) (b:GParam) (f:GParam) {i:Addr} (j:At c i [(str f.fName),(str f.fValue)]) {r:Bool} (h:zCC b f=some r) :
  Cb Tryz.prog 394 [(agg [(str b.fName),(str b.fValue)]),(Value.pointer (some i))] d c r:=by
 refine CM 9 Tryz.func394 hw fun S=>?_
 refine Ws<|Wg ?_;refine W.box [(str b.fName),(str b.fValue)] S rfl rfl ?_;intro l o S;refine A<|We<|Ws<|Wg<|Fb ?_;refine Lo 0 S<|Fc ?_;have k:=At.add j 0 (by simp);refine Lq S k<|Na<|A<|We ?_;exact WP.ret (Rb h S)
theorem zIB {t:World} {u:Hp} (hw:Holds t u) (hG:GlX t u) (av:Unit) (z:Str) {r:(Str×Bool)} (h:zCl av z=some r) :
  Con Tryz.prog 392 [(agg []),(str z)] t u (fun H' v=>v=(.tuple ⟨[(str r.1),(boo r.2)]⟩)):=by
 refine CM 42 Tryz.func392 hw fun S=>?_
 refine Ws<|Wg ?_;refine W.box [] S rfl rfl ?_;intro b1 w2 S;refine A<|A<|We<|Ws<|Wg<|M<|B h fun c aw h=>W.call S rfl (zJ0 S.holds (hG.pstX S.post) z aw) ?_
 rintro v4 w5 H6 bn S ⟨x,rfl,d⟩;refine M ?_;refine Ex ?_;refine Ex ?_;refine W.alloc [(str []),(str []),(.slice none 0 0)] S zWR ?_;intro ab bo S;refine W.store (i:=0) [(str c.1.fType),(str c.1.fSub),x] S rfl rfl rfl zRS rfl (AllOne.all (l:=[(str c.1.fType),(str c.1.fSub),x]) (.cons rfl (.cons rfl (.cons (Sl.oneC d) .nil)))) (nL kr) rfl ?_;intro bp S;refine A<|We<|Ws<|Ws<|Wg<|Fb ?_;refine Lo 0 S<|Nq d<|M<|We<|B h fun ai ay h=>WP.cut (fun f w=>∃ (aj:Hp),f 1=(str z)∧f 7=(boo ai)∧St t u w aj []) ?_ ?_
 ·refine Wb ?_
  refine WP.loopM (zBQ c) (fun s f w=>match s with | (aa,ak)=>∃ (ac:Hp),f 1=(str z)∧f 6=(ptr ab 0)∧f 7=(boo aa)∧f 16=x∧f 17=(int (c.1.fParams.length:Int))∧f 18=(int ak)∧Sl ac x c.1.fParams∧St t u w ac [.box ab 419 [(str c.1.fType),(str c.1.fSub),x]]) (c.2,0) ai ay ?_ ?_
  ·exact ⟨H6,rfl,rfl,rfl,rfl,rfl,rfl,d,(S.pk [0])⟩
  intro s f w hI bq p az;obtain ⟨aa,ak⟩:=s;obtain ⟨ac,al,am,an,ao,ap,ad,d,S⟩:=hI;refine Ws<|Wg<|La' ad ap<|We<|Ws ?_;rcases condE p with ⟨af,p⟩ | ⟨af,p⟩
  ·refine CT af<|Wk<|Ws<|Wb<|Ws<|Wg<|M' ad<|B p fun k a0 p=>W.idx (α:=GParam) d ao ad el403 a0 ?_
   rintro br _ a1 rfl;refine WL.wz (R.loadHN (vs:=[(str k.fName),(str k.fValue)]) S rfl a1 zRK rfl rfl) ?_;refine W.alloc [(str []),(str [])] S zZD ?_;intro aq bs S;refine A ?_;refine W.store (i:=0) [(str k.fName),(str k.fValue)] S rfl rfl rfl zRK rfl rfl (nL kr) rfl ?_;intro bt S;refine We<|Wg<|M' an<|M ?_;refine WL.grp 4 [25,26,27] 28 (boo (aa&&(k.fName !=[113]))) ?_ ?_
   ·rcases boolE aa with j | j
    ·refine Gy j<|Fb<|Gy j ?_
     refine Lo 0 S<|Gy j<|Nb<|Pt j ?_;exact We ⟨(andT j),ag,rfl⟩
    refine Gn j<|Gn j<|Gn j<|Pf j ?_;exact We ⟨(andF j),ag,rfl⟩
   intro us;refine M ?_;obtain ⟨ae,a2,a3,_,S⟩:=S.settle (i:=0) rfl;replace S:St t u _ ae [.box ab 419 [(str c.1.fType),(str c.1.fSub),x]]:=S;have a4:At ae ⟨aq,0,none⟩ [(str k.fName),(str k.fValue)]:=⟨_,_,rfl,a3,[],by simp⟩;have d:=d.up a2;refine B p fun a5 o p=>WL.grpw 8 [30,31,32,33,34,35,36] 37 (boo a5) (fun w=>∃ H':Hp,ae.le H'∧St t u w H' [.box ab 419 [(str c.1.fType),(str c.1.fSub),x]]) ?_ ?_
   ·rcases boolE (aa&&(k.fName !=[113])) with b | b
    ·replace o:=condT o b
     refine Gy b<|Fb' am<|Gy b ?_;refine Lo 0 S<|Gy b<|M<|Gy b<|B o fun a6 a7 o=>W.subHi (α:=GParam) d rfl rfl el403 a7 ?_
     intro bu a8;refine Gy b ?_;refine WL.wz (R.mkFunc (vs:=[(Value.pointer (some ⟨aq,0,none⟩))]) rfl)<|Gy b<|B o fun bv a9 o=>W.call S rfl (zCo S.holds (hG.pstX S.post) a6 (fun x0=>zCC x0 k) a8 (fun hle hw hG x0 r h=>zHQ hw hG x0 k (At.mono a4 hle (by simp)) h) a9) ?_
     rintro bw bx ba au S rfl;have d:=d.up au;refine Gy b<|No<|Pt b ?_;exact We ⟨(ob o),ag,⟨ba,au,S⟩⟩
    replace o:=condF o b;refine Gn b<|Gn b<|Gn b<|Gn b<|Gn b<|Gn b<|Gn b<|Pf b ?_;exact We ⟨(ob o),ag,⟨ae,lr,S⟩⟩
   intro us bz ⟨bb,bc,S⟩;have d:=d.up bc;refine A<|We<|Wg<|Lg' ad rfl<|M<|We ?_;obtain rfl:=oi p;exact ⟨rfl,⟨bb,al,am,rfl,ao,ap,rfl,d,S⟩⟩
  refine CF af<|Wx ?_;obtain rfl:=oi p;obtain rfl:=az;exact ⟨ac,al,an,(S.pk [])⟩
 rintro f w ⟨aj,bd,be,S⟩;refine Ws<|Wg<|M' bd<|B h fun b0 bf h=>W.call S rfl (zBJ S.holds (hG.pstX S.post) z bf) ?_
 rintro b2 b3 b4 b5 S rfl;refine M' be<|A<|A<|We ?_;obtain rfl:=oi h;refine WP.ret (Out.two rfl S rfl rfl ?_);exact rfl
theorem zKT {t:World} {u:Hp} (hw:Holds t u) (hG:GlX t u) (p:Str) (j:Bool) {r:Bool} (h:zC8 p j=some r) :
  Cb Tryz.prog 351 [(str p),(boo j)] t u r:=by
 refine CM 41 Tryz.func351 hw fun S=>?_
 refine Ws<|Wg<|A<|We<|Ws<|Ws<|Wg<|M<|B h fun v ao h=>W.call S rfl (zBJ S.holds (hG.pstX S.post) p ao) ?_
 rintro v2 w3 H4 ay S rfl;refine W.bytes (s:=v) S rfl Tryz.underlying9 Tryz.underlying266 Tryz.underlying5 ?_;intro b6 c7 w8 a0 S;refine Nv<|M<|We<|B h fun z au h=>WP.cut (fun f w=>match z with | .inl _=>∃ (ae:Hp),f 0=(str p)∧St t u w ae [] | .inr _=>False) ?_ ?_
 ·refine Wb ?_
  refine WP.loopM (zCz j v) (fun s f w=>match s with | af=>∃ (x:Hp),f 0=(str p)∧f 1=(boo j)∧f 9=(.slice (some ⟨b6,0,none⟩) v.length c7)∧f 10=(int (v.length:Int))∧f 11=(int af)∧St t u w x [.box b6 5 (v.map byt)]) 0 z au ?_ ?_
  ·exact ⟨H4,rfl,rfl,rfl,rfl,rfl,S⟩
  intro af f w hI a1 c ah;obtain ⟨x,ai,aj,ak,al,aa,S⟩:=hI;refine Ws<|Wg<|La' aa al<|We<|Ws ?_;rcases condE c with ⟨ab,c⟩ | ⟨ab,c⟩
  ·refine CT ab<|Wk<|Ws<|Wb<|Ws<|Wg<|B c fun a2 am c=>?_
   have a3:=(zBx am).2;refine WL.wz (R.idxB ak aa el266 (zBx am).2)<|B c fun c26 av c=>?_
   refine WL.wz (R.loadB (i:=0) S rfl rfl lay5 (zBx av).1)<|A<|We<|Ws<|Wg<|M<|Ma c26 97<|M ?_;refine WL.grp 3 [18,19] 20 (boo ((decide (c26<97))||(decide (122<c26)))) ?_ ?_
   ·rcases boolE (decide (c26<97)) with k | k
    ·refine Gn k<|Gn k<|Pt k ?_
     exact We ⟨(orT k),ag,rfl⟩
    refine Gy k<|M<|Gy k<|Mc c26 122<|Pf k ?_;exact We ⟨(orF k),ag,rfl⟩
   intro us;refine M ?_;refine WL.grp 11 [22,23,24,25,26,27,28,29,30,31] 32 (boo (((decide (c26<97))||(decide (122<c26)))&&(((!j)||(decide (c26<48)))||(decide (57<c26))))) ?_ ?_
   ·rcases boolE ((decide (c26<97))||(decide (122<c26))) with b | b
    ·refine Gy b<|M' aj<|Gy b<|No<|Gy b<|M ?_
     refine WL.grp 3 [25,26] 27 (boo ((!j)||(decide (c26<48)))) ?_ ?_
     ·rcases boolE (!j) with l | l
      ·refine Gn l<|Gn l<|Gy b<|Pt l ?_
       exact We ⟨(orT l),ag,rfl⟩
      refine Gy l<|M<|Gy l<|Ma c26 48<|Gy b<|Pf l ?_;exact We ⟨(orF l),ag,rfl⟩
     intro us;refine Gy b<|M ?_;refine WL.grp 3 [29,30] 31 (boo (((!j)||(decide (c26<48)))||(decide (57<c26)))) ?_ ?_
     ·rcases boolE ((!j)||(decide (c26<48))) with o | o
      ·refine Gn o<|Gn o<|Gy b<|Pt o ?_
       exact We ⟨(orT o),ag,rfl⟩
      refine Gy o<|M<|Gy o<|Mc c26 57<|Gy b<|Pf o ?_;exact We ⟨(orF o),ag,rfl⟩
     intro us;refine Pt b ?_;exact We ⟨(andT b),ag,rfl⟩
    refine Gn b<|Gn b<|Gn b<|WL.gund rfl rfl<|WL.gund rfl rfl<|Gn b<|Gn b<|WL.gund rfl rfl<|WL.gund rfl rfl<|Gn b<|Pf b ?_;exact We ⟨(andF b),ag,rfl⟩
   intro us;refine We ?_;rcases condE c with ⟨ac,c⟩ | ⟨ac,c⟩
   ·refine CT ac<|Ws<|Wg<|A<|We ?_
    obtain rfl:=oi c;obtain rfl:=ah;exact WP.ret (Rb h S)
   refine CF ac<|Wk<|Wg<|Lg' aa rfl<|M<|We ?_;obtain rfl:=oi c;exact ⟨rfl,⟨x,ai,aj,ak,al,rfl,S⟩⟩
  refine CF ab<|Wx ?_;obtain rfl:=oi c;obtain rfl:=ah;exact ⟨x,ai,(S.pk [])⟩
 intro f w hM;rcases z with _ | e
 ·obtain ⟨ae,an,S⟩:=hM
  refine Ws<|Wg<|M' an<|Nb<|M ?_;refine WL.grp 4 [37,38,39] 40 (boo ((p !=[])&&(decide ((p.length:Int)≤8)))) ?_ ?_
  ·rcases boolE (p !=[]) with d | d
   ·refine Gy d<|M' an<|Gy d<|Ns<|Gy d<|Lb<|Pt d ?_
    exact We ⟨(andT d),ag,rfl⟩
   refine Gn d<|Gn d<|Gn d<|Pf d ?_;exact We ⟨(andF d),ag,rfl⟩
  intro us;refine A<|We ?_;exact WP.ret (Rb h S)
 exact hM.elim
end Go.Proofs
namespace Go.Proofs
open Go Go.Eng Go.VI Go.Eng.Pure
theorem c351:FK ⟨351,[.str,.boo],[.boo],fun x=>zC8 x.1 x.2⟩:=@fun w H az x y hw hg b hT h=>by
 obtain ⟨c,_,rfl,d,⟨f,rfl,i⟩⟩:=hT;obtain rfl:c=_:=d;obtain rfl:f=_:=i;exact (zKT hw ⟨b.gl,b,hg⟩ x.1 x.2 h).mono (fun _ _ e=>⟨[_],e,_,rfl,rfl⟩)
theorem c251:FK ⟨251,[.str,.str],[.int],fun x=>zDL x.1 x.2⟩:=mk (fcons c230 anil) (.e) Tryz.func251
theorem zFj {b:World} {c:Hp} (hw:Holds b c) (hG:GlX b c) (d:Str) (f:Str) {r:Int} (h:zDL d f=some r) :
  Ci Tryz.prog 251 [(str d),(str f)] b c r:=by
 refine (c251 (xs:=(d,f)) (y:=r) hw hG.ok hG.gs ⟨_,_,rfl,rfl,⟨_,rfl,rfl⟩⟩ h).mono ?_;rintro _ v ⟨_,rfl,D⟩;obtain ⟨i,rfl,j⟩:=D;obtain rfl:i=_:=j;exact rfl
end Go.Proofs
namespace Go.Proofs
open Go.Eng Go.Eng.Pure
theorem zH6 {j:World} {d:Hp} (hw:Holds j d) (hG:GlX j d) (k:Str) (i:Str) {r:Int} (h:zCe k i=some r) :
  Ci Tryz.prog 346 [(str k),(str i)] j d r:=by
 refine CM 34 Tryz.func346 hw fun S=>?_
 refine Ws<|Wg<|A<|We<|Ws<|Ws<|Wg<|M<|Ns<|Le<|We ?_;rcases condE h with ⟨l,h⟩ | ⟨l,h⟩
 ·refine CT l<|Ws<|Wg<|M ?_
  cases h
 refine CF l<|Wk<|Ws<|Ws<|Wg<|M<|Ns<|Le<|We ?_;rcases condE h with ⟨o,h⟩ | ⟨o,h⟩
 ·refine CT o<|Ws<|Wg<|M<|M<|B h fun c3 ac h=>Ja ac<|W.countString (s:=k) (c:=c3) Tryz.func353 rfl rfl kr kr rfl rfl<|A<|We ?_
  exact WP.ret (Ri h S)
 refine CF o<|Wk<|Ws<|Wg<|A<|We<|B h fun ad ae h=>WP.cut (fun _ _=>False) ?_ (fun _ _ h=>h.elim)
 refine Wb ?_;refine WP.loopM (zH7 i) (fun s f w=>match s with | (p,v)=>∃ (x:Hp),f 0=(str p)∧f 1=(str i)∧f 5=(int v)∧St j d w x []) (k,0) ad ae ?_ ?_
 ·exact ⟨d,rfl,rfl,rfl,S⟩
 intro s f w hI ak b af;obtain ⟨p,v⟩:=s;obtain ⟨x,z,t,h9,S⟩:=hI;refine Wb<|Ws<|Wg<|M' z<|M' t<|B b fun al ah b=>W.call S rfl (zFj S.holds (hG.pstX S.post) p i ah) ?_
 rintro am an ai ao S rfl;refine A<|We<|Ws<|Ws<|Wg<|M<|Le<|We ?_;rcases condE b with ⟨u,b⟩ | ⟨u,b⟩
 ·refine CT u<|Ws<|Wg<|M' h9<|A<|We ?_
  obtain rfl:=oi b;obtain rfl:=af;exact WP.ret (Ri h S)
 refine CF u<|Wk<|Ws<|Wg<|M' h9<|Lg<|A<|We<|Wg<|M' z<|M<|M' t ?_;refine Ns<|Lg<|B b fun ap aj b=>Jc aj<|A<|We ?_
 obtain rfl:=oi b;exact ⟨rfl,⟨ai,rfl,t,rfl,S⟩⟩
theorem zJa {k:World} {c:Hp} (hw:Holds k c) (hG:GlX k c) (d:Str) (l:Str) (t:Int) (a1:Int) {r:(List Str)} (h:zDy d l t a1=some r) :
  Con Tryz.prog 354 [(str d),(str l),(int t),(int a1)] k c (fun H' v=>Sl H' v r):=by
 refine CM 66 Tryz.func354 hw fun S=>?_
 refine Ws<|Wg<|A<|We<|Ws<|Ws<|Wg<|M<|Le<|We ?_;rcases condE h with ⟨aj,h⟩ | ⟨aj,h⟩
 ·refine CT aj<|Ws<|Wg<|A<|We ?_
  exact WP.ret (Rl h S Sl.nil)
 refine CF aj<|Wk<|Ws<|Ws<|Wg<|M<|Na<|We ?_;rcases condE h with ⟨ak,h⟩ | ⟨ak,h⟩
 ·refine CT ak<|Ws<|Wg<|M<|M ?_
  cases h
 refine CF ak<|Wk<|Ws<|Ws<|Wg<|M<|La<|We<|B h fun ac o h=>WP.cut (fun f w=>∃ (H3:Hp),f 0=(str d)∧f 1=(str l)∧f 2=(int t)∧f 3=(int ac)∧St k c w H3 []) ?_ ?_
 ·rcases condE o with ⟨am,o⟩ | ⟨am,o⟩
  ·refine CT am<|Wg<|M<|M<|B o fun cc bd o=>W.call S rfl (zH6 S.holds (hG.pstX S.post) d l bd) ?_
   rintro cd ce be cf S rfl;refine Lg<|A<|We ?_;obtain rfl:=oi o;exact ⟨be,rfl,rfl,rfl,rfl,S⟩
  refine CF am<|Wk ?_;obtain rfl:=oi o;exact ⟨c,rfl,rfl,rfl,rfl,S⟩
 rintro f w ⟨H3,h4,h5,h6,h8,S⟩;refine Ws<|Wg<|M' h8<|M' h4<|Ns<|Lg<|Ni<|A<|We<|Ws<|Wg<|M<|B h fun bi bj h=>W.makeSlice (α:=Str) (zv:=(str [])) (z:=[]) S el33 rfl rfl rfl zer9 rfl bj ?_
 intro p cg bn j bo bp S;refine A<|We<|Ws<|Wg<|M<|Lh<|A<|We<|Ws<|Wg<|A<|We ?_;refine Ws<|B h fun an bq h=>WP.cut (fun f w=>match an with | (a3,ao,ad)=>∃ (ap:Hp) (aq:List Value),f 0=(str a3)∧f 9=(.slice (some ⟨p,0,none⟩) j j)∧f 10=(int ao)∧Ms ap aq ad∧ad.length=j∧St k c w ap [.box p 9 aq]) ?_ ?_
 ·refine Wb ?_
  refine WP.loopM (zBV d l t ac) (fun s f w=>match s with | (au,av,ae)=>∃ (af:Hp) (u:List Value),f 0=(str au)∧f 1=(str l)∧f 2=(int t)∧f 3=(int (wr ((if (wr ((d.length:Int)+1))<ac then (wr ((d.length:Int)+1)) else ac) - 1)))∧f 9=(.slice (some ⟨p,0,none⟩) j j)∧f 10=(int av)∧Ms af u ae∧ae.length=j∧St k c w af [.box p 9 u]) (d,0,bi) an bq ?_ ?_
  ·exact ⟨H3,bn,h4,h5,h6,rfl,rfl,rfl,bp,bo,S⟩
  intro s f w hI ch b a4;obtain ⟨au,av,ae⟩:=s;obtain ⟨af,u,x,aw,a5,a6,ah,aa,ab,ai,S⟩:=hI;refine Ws<|Ws<|Wg<|M' aa<|M' a6<|La<|We ?_;rcases condE b with ⟨ax,b⟩ | ⟨ax,b⟩
  ·refine CT ax<|Wk<|Wb<|Ws<|Wg<|M' x<|M' aw<|B b fun ci br b=>W.call S rfl (zFj S.holds (hG.pstX S.post) au l br) ?_
   rintro cj ck a7 bs S rfl;have ab:=Ms.mono ab bs;refine A<|We<|Ws<|Ws<|Wg<|M<|La<|We ?_;rcases condE b with ⟨ay,b⟩ | ⟨ay,b⟩
   ·refine CT ay<|Wx ?_
    obtain rfl:=oi b;obtain rfl:=a4;exact ⟨a7,u,x,ah,aa,ab,ai,S⟩
   refine CF ay<|Wk<|Ws<|Wg<|M' ah<|M' aa<|M' x<|M<|M' a5<|Lg<|B b fun cl bt b=>Jd bt<|B b fun cm bu b=>?_
   refine WL.wz (R.idxM (α:=Str) (xs:=ae) rfl ai rfl el33 bu)<|B b fun cn a8 b=>?_
   refine W.storeM (α:=Str) (i:=0) (m:=av) S ab rfl rfl rfl lay9 rfl rfl a8 ?_;intro co bv bw S;have bx:=(zGj a8).1.trans ai;refine We<|Ws<|Wg<|M' x<|M<|M' aw<|Ns<|Lg<|B b fun cp bz b=>Jc bz<|A<|We<|Wg<|M' aa<|Lg<|A<|We ?_
   obtain rfl:=oi b;exact ⟨rfl,⟨a7,bv,rfl,aw,a5,a6,ah,rfl,bw,bx,S⟩⟩
  refine CF ax<|Wx ?_;obtain rfl:=oi b;obtain rfl:=a4;exact ⟨af,u,x,ah,aa,ab,ai,S⟩
 intro f w hM;obtain ⟨a3,ao,ad⟩:=an;obtain ⟨ap,aq,b0,a9,ba,b1,bb,S⟩:=hM;refine Ws<|Wg<|M' a9<|M' ba<|M' b0<|B h fun cq b2 h=>?_
 refine WL.wz (R.idxM (α:=Str) (xs:=ad) rfl bb rfl el33 b2)<|B h fun b3 bc h=>?_
 refine W.storeM (α:=Str) (i:=0) (m:=ao) S b1 rfl rfl rfl lay9 rfl rfl bc ?_;intro cr b4 az S;have b5:=(zGj bc).1.trans bb;refine We<|Ws<|Wg<|M' a9<|M' ba<|Lg ?_;obtain ⟨a0,b6,b7,_,S⟩:=S.settle (i:=0) rfl;replace S:St k c _ a0 []:=S;have b8:At a0 ⟨p,0,none⟩ b4:=⟨_,_,rfl,b7,[],by simp⟩;have az:=Ms.mono az b6;have b9:Sl a0 (.slice (some ⟨p,0,none⟩) j j) b3:=Ms.sl az b5 b8;refine B h fun cs ca h=>W.subHi (α:=Str) b9 rfl rfl el33 ca ?_
 intro ct cb;refine A<|We ?_;exact WP.ret (Rl h S cb)
end Go.Proofs
namespace Go.Proofs
open Go Go.Eng Go.VI Go.Eng.Pure
theorem c354:FK ⟨354,[.str,.str,.int,.int],[(.sl .str)],fun x=>zDy x.1 x.2.1 x.2.2.1 x.2.2.2⟩:=@fun w H az x y hw hg b hT h=>by
 obtain ⟨c,_,rfl,d,⟨f,_,rfl,i,⟨j,_,rfl,k,⟨l,rfl,e3⟩⟩⟩⟩:=hT;obtain rfl:c=_:=d;obtain rfl:f=_:=i;obtain rfl:j=_:=k;obtain rfl:l=_:=e3;exact (zJa hw ⟨b.gl,b,hg⟩ x.1 x.2.1 x.2.2.1 x.2.2.2 h).mono (fun _ v K0=>⟨[v],rfl,v,rfl,K0⟩)
theorem c350:FK ⟨350,[.str,.str],[(.sl .str)],fun x=>zF6 x.1 x.2⟩:=mk (fcons c354 anil) (.e) Tryz.func350
theorem c344:FK ⟨344,[.str],[.boo],fun x=>zDG x⟩:=mk (fcons c351 (fcons c350 anil)) (.n .e (.n (.n .e (.lp ⟨[iS 8 .int],some [],[]⟩ (some ⟨[],some [],[]⟩) true .e)) .e)) Tryz.func344
theorem zMk {b:World} {c:Hp} (hw:Holds b c) (hG:GlX b c) (d:Str) {r:Bool} (h:zDG d=some r) :
  Cb Tryz.prog 344 [(str d)] b c r:=by
 refine (c344 (xs:=(d)) (y:=r) hw hG.ok hG.gs ⟨_,rfl,rfl⟩ h).mono ?_;rintro _ v ⟨_,rfl,D⟩;obtain ⟨f,rfl,i⟩:=D;obtain rfl:f=_:=i;exact rfl
end Go.Proofs
namespace Go.Proofs
open Go.Eng Go.Eng.Pure
theorem zId {c:World} {d:Hp} (hw:Holds c d) (hG:GlX c d) (f:Unit) (b:Str) {r:(Str×Bool)} (h:zC1 f b=some r) :
  Con Tryz.prog 395 [(agg []),(str b)] c d (fun H' v=>v=(.tuple ⟨[(str r.1),(boo r.2)]⟩)):=by
 refine CM 10 Tryz.func395 hw fun S=>?_
 refine Ws<|Wg ?_;refine W.box [] S rfl rfl ?_;intro k l S;refine A<|A<|We<|Ws<|Wg<|M<|B h fun o i h=>W.call S rfl (zBJ S.holds (hG.pstX S.post) b i) ?_
 rintro p t u x S rfl;refine M<|B h fun z j h=>W.call S rfl (zMk S.holds (hG.pstX S.post) b j) ?_
 rintro v9 ab ac ad S rfl;refine A<|A<|We ?_;obtain rfl:=oi h;refine WP.ret (Out.two rfl S rfl rfl ?_);exact rfl
end Go.Proofs
namespace Go.Proofs
open Go Go.Eng Go.VI Go.Eng.Pure
theorem c334:FK ⟨334,[.int,.str],[.str],fun x=>zA8 x.1 x.2⟩:=mk (fcons c149 anil) (.n .e (.n .e (.n .e (.n (.n .e (.j ⟨[],some [],[]⟩ true (.n (.n (.n .e (.j ⟨[iS 11 .boo],some [],[]⟩ false .e)) (.n .e (.n (.n .e (.j ⟨[iS 14 .boo],some [],[]⟩ false .e)) .e))) .e))) .e)))) Tryz.func334
theorem c396:FK ⟨396,[.int,.str],[.str,.boo],fun x=>zBy x.1 x.2⟩:=mk (fcons c334 (fcons c18 anil)) (.e) Tryz.func396
theorem zIC {b:World} {c:Hp} (hw:Holds b c) (hG:GlX b c) (d:Int) (f:Str) {r:(Str×Bool)} (h:zBy d f=some r) :
  Con Tryz.prog 396 [(int d),(str f)] b c (fun H' v=>v=(.tuple ⟨[(str r.1),(boo r.2)]⟩)):=by
 refine (c396 (xs:=(d,f)) (y:=r) hw hG.ok hG.gs ⟨_,_,rfl,rfl,⟨_,rfl,rfl⟩⟩ h).mono ?_;rintro _ v ⟨_,rfl,D⟩;obtain ⟨i,_,rfl,j,⟨k,rfl,l⟩⟩:=D;obtain rfl:i=_:=j;obtain rfl:k=_:=l;exact rfl
theorem zKE {b:World} {c:Hp} (hw:Holds b c) (hG:GlX b c) (d:Str) {r:Bool} (h:zCw d=some r) :
  Cb Tryz.prog 199 [(str d)] b c r:=by
 refine (c199 (xs:=(d)) (y:=r) hw hG.ok hG.gs ⟨_,rfl,rfl⟩ h).mono ?_;rintro _ v ⟨_,rfl,D⟩;obtain ⟨f,rfl,i⟩:=D;obtain rfl:f=_:=i;exact rfl
theorem zNl {b:World} {c:Hp} (hw:Holds b c) (hG:GlX b c) (d:Str) {r:Str} (h:zCu d=some r) :
  Cs Tryz.prog 242 [(str d)] b c r:=by
 refine (c242 (xs:=(d)) (y:=r) hw hG.ok hG.gs ⟨_,rfl,rfl⟩ h).mono ?_;rintro _ v ⟨_,rfl,D⟩;obtain ⟨f,rfl,i⟩:=D;obtain rfl:f=_:=i;exact rfl
end Go.Proofs
namespace Go.Proofs
open Go.Eng Go.Eng.Pure
theorem zID {l:World} {k:Hp} (hw:Holds l k) (hG:GlX l k) (u:Unit) (d:Str) {r:(Str×Bool)} (h:zCj u d=some r) :
  Con Tryz.prog 397 [(agg []),(str d)] l k (fun H' v=>v=(.tuple ⟨[(str r.1),(boo r.2)]⟩)):=by
 refine CM 25 Tryz.func397 hw fun S=>?_
 refine Ws<|Wg ?_;refine W.box [] S rfl rfl ?_;intro o w2 S;refine A<|A<|We<|Ws<|Wg<|M<|M<|Ns<|Ld<|M ?_;refine WL.grp 4 [11,12,13] 14 (boo ((decide (1≤(d.length:Int)))&&(decide ((d.length:Int)≤100)))) ?_ ?_
 ·rcases boolE (decide (1≤(d.length:Int))) with c | c
  ·refine Gy c<|M<|Gy c<|Ns<|Gy c<|Lb<|Pt c ?_
   exact We ⟨(andT c),ag,rfl⟩
  refine Gn c<|Gn c<|Gn c<|Pf c ?_;exact We ⟨(andF c),ag,rfl⟩
 intro us;refine M<|B h fun p i h=>WL.grpw 3 [16,17] 18 (boo p) (fun w=>∃ H':Hp,k.le H'∧St l k w H' [.box o 376 []]) ?_ ?_
 ·rcases boolE ((decide (1≤(d.length:Int)))&&(decide ((d.length:Int)≤100))) with f | f
  ·replace i:=condT i f
   refine Gy f<|M<|Gy f<|B i fun r7 x i=>W.call S rfl (zKE S.holds (hG.pstX S.post) d x) ?_
   rintro v8 w9 z aa S rfl;refine Pt f ?_;exact We ⟨(ob i),ag,⟨z,aa,S⟩⟩
  replace i:=condF i f;refine Gn f<|Gn f<|Pf f ?_;exact We ⟨(ob i),ag,⟨k,lr,S⟩⟩
 intro us ak ⟨t,al,S⟩;refine M<|B h fun ab j h=>WL.grpw 5 [20,21,22,23] 24 (boo ab) (fun w=>∃ H':Hp,t.le H'∧St l k w H' [.box o 376 []]) ?_ ?_
 ·rcases boolE p with b | b
  ·replace j:=condT j b
   refine Gy b<|M<|Gy b<|B j fun am ac j=>W.call S rfl (zNl S.holds (hG.pstX S.post) d ac) ?_
   rintro an ao ad ae S rfl;refine Gy b<|M<|Gy b<|Na<|Pt b ?_;exact We ⟨(ob j),ag,⟨ad,ae,S⟩⟩
  replace j:=condF j b;refine Gn b<|Gn b<|Gn b<|Gn b<|Pf b ?_;exact We ⟨(ob j),ag,⟨t,lr,S⟩⟩
 intro us ap ⟨aq,au,S⟩;refine A<|A<|We ?_;obtain rfl:=oi h;refine WP.ret (Out.two rfl S rfl rfl ?_);exact rfl
theorem zCi {b:World} {c:Hp} (hw:Holds b c) (hG:GlX b c) (x:Gvariants_domain) (p0:Str) {r:(Str×Bool)} (h:zBo x p0=some r) :
  ConI Tryz.prog "variantproxy/variants.form" (Tryz.vvariants_domain x) [(str p0)] b c (fun H' v=>v=(.tuple ⟨[(str r.1),(boo r.2)]⟩)):=by
 cases x with
 | media=>exact ConI.mk (fun w=>by kernel_rfl) (zIB hw hG () p0 h)
 | tags=>exact ConI.mk (fun w=>by kernel_rfl) (zId hw hG () p0 h)
 | words n=>exact ConI.mk (fun w=>by kernel_rfl) (zIC hw hG n p0 h)
 | texts=>exact ConI.mk (fun w=>by kernel_rfl) (zID hw hG () p0 h)
theorem mz4:((Tryz.prog.info? 4).bind (·.zero))=some (boo false):=kr
theorem zKi {p:World} {o:Hp} (hw:Holds p o) (hG:GlX p o) (d:GAxis) {t:Value} (j:Sl o t d.fValues) {r:Bool} (h:zDp d=some r) :
  Cb Tryz.prog 221 [(agg [(str d.fName),t])] p o r:=by
 refine CM 46 Tryz.func221 hw fun S=>?_
 refine Ws<|Wg ?_;refine W.box [(str d.fName),t] S rfl rfl ?_;intro b1 w2 S;refine A<|We<|Ws<|Ws<|Wg<|Fb ?_;refine Lo 0 S<|Nq j<|La<|M ?_;refine WL.grp 5 [14,15,16,17] 18 (boo ((decide ((d.fValues.length:Int)<1))||(decide (16<(d.fValues.length:Int))))) ?_ ?_
 ·rcases boolE (decide ((d.fValues.length:Int)<1)) with c | c
  ·refine Gn c<|Gn c<|Gn c<|Gn c<|Pt c ?_
   exact We ⟨(orT c),ag,rfl⟩
  refine Gy c<|Fb<|Gy c ?_;refine Lo 0 S<|Gy c<|Nq j<|Gy c<|Lc<|Pf c ?_;exact We ⟨(orF c),ag,rfl⟩
 intro us;refine We ?_;rcases condE h with ⟨aa,h⟩ | ⟨aa,h⟩
 ·refine CT aa<|Ws<|Wg<|A<|We ?_
  exact WP.ret (Rb h S)
 refine CF aa<|Wk<|Ws<|Wg<|Fb ?_;refine Lo 0 S<|B h fun r6 ap h=>W.call S rfl (zFl S.holds (hG.pstX S.post) d.fName ap) ?_
 rintro v7 w8 H9 au S rfl;have j:=j.up au;refine A<|We<|Ws<|Wg<|W.makeMap S ?_;intro ai a9 S;refine A<|We<|Ws<|Ws<|Wg<|Fb ?_;refine Lo 1 S<|Nq j<|M<|We<|B h fun ac av h=>WP.cut (fun f w=>match ac with | .inl _=>∃ (aj:Hp),St p o w aj [] | .inr _=>False) ?_ ?_
 ·refine Wb ?_
  refine WP.loopM (zBU d r6) (fun s f w=>match s with | (ak,u)=>∃ (x:Hp),f 3=(Tryz.vvariants_domain r6)∧f 4=(mapv ai)∧f 24=t∧f 25=(int (d.fValues.length:Int))∧f 26=(int ak)∧Sl x t d.fValues∧St p o w x [.mp ai (encm boo u)]) (0,([]:List (Str×Bool))) ac av ?_ ?_
  ·exact ⟨H9,rfl,rfl,rfl,rfl,rfl,j,(S.pk [0])⟩
  intro s f w hI ba b al;obtain ⟨ak,u⟩:=s;obtain ⟨x,am,ad,an,ao,ae,j,S⟩:=hI;refine Ws<|Wg<|La' ae ao<|We<|Ws ?_;rcases condE b with ⟨af,b⟩ | ⟨af,b⟩
  ·refine CT af<|Wk<|Ws<|Wb<|Ws<|Wg<|B b fun aw ax b=>W.idx (α:=Str) j an ae el33 ax ?_
   rintro bb _ ay rfl;refine Lq S ay<|A<|We<|Ws<|Wg<|M' am<|M<|B b fun az a0 b=>W.invoke S rfl rfl (zCi S.holds (hG.pstX S.post) r6 aw a0) ?_
   rintro bc bd a1 a2 S rfl;have j:=j.up a2;refine M ?_;refine Ex ?_;refine Ex<|A<|A<|We<|Ws<|Ws<|Wg<|M<|No<|M<|B b fun a3 l b=>WL.grp 4 [39,40,41] 42 (boo a3) ?_ ?_
   ·rcases boolE (!az.2) with k | k
    ·replace l:=condT l k
     refine Gn k<|Gn k<|Gn k<|Pt k ?_;exact We ⟨(ob l),ag,rfl⟩
    replace l:=condF l k;refine Gy k<|M' ad<|Gy k<|M<|Gy k<|B l fun g38 a4 l=>?_
    refine WL.wz (v:=boo g38.1) (R.ofEq (R.lookup1 boo (i:=0) (m:=u) (z:=false) S rfl rfl rfl Tryz.underlying243 Tryz.underlying9 mz4 rfl) (by rw [oi a4]))<|Pf k ?_;exact We ⟨(ob l),ag,rfl⟩
   intro us;refine We ?_;rcases condE b with ⟨ah,b⟩ | ⟨ah,b⟩
   ·refine CT ah<|Ws<|Wg<|A<|We ?_
    obtain rfl:=oi b;obtain rfl:=al;exact WP.ret (Rb h S)
   refine CF ah<|Wk<|Wg<|M' ad<|M<|W.mapUpdate boo (i:=0) (m:=u) true S rfl rfl rfl rfl rfl Tryz.underlying243 Tryz.underlying9 ?_;intro be S;refine We<|Wg<|Lg' ae rfl<|M<|We ?_;obtain rfl:=oi b;exact ⟨rfl,⟨a1,am,ad,an,ao,rfl,j,S⟩⟩
  refine CF af<|Wx ?_;obtain rfl:=oi b;obtain rfl:=al;exact ⟨x,(S.pk [])⟩
 intro f w hM;rcases ac with _ | e
 ·obtain ⟨aj,S⟩:=hM
  refine Ws<|Wg<|A<|We ?_;exact WP.ret (Rb h S)
 exact hM.elim
end Go.Proofs
namespace Go.Proofs
open Go Go.Eng Go.VI Go.Eng.Pure
theorem c221:FK ⟨221,[(.st 278)],[.boo],fun x=>zDp x⟩:=@fun w H az x y hw hg b hT h=>by
 obtain ⟨d,rfl,c⟩:=hT;obtain ⟨_,rfl,⟨_,rfl,S0_1⟩⟩:=c;exact (zKi hw ⟨b.gl,b,hg⟩ x S0_1 h).mono (fun _ _ e=>⟨[_],e,_,rfl,rfl⟩)
theorem c158:FK ⟨158,[(.sl (.st 278))],[.boo],fun x=>zBZ x⟩:=mk (fcons c221 (fcons c149 (fcons c18 anil))) (.n .e (.n .e (.n (.n .e (.lp ⟨[iS 17 .int],some [],[]⟩ (some ⟨[],some [],[]⟩) true (.n .e (.n .e (.n (.n (.n .e (.n .e (.n .e (.lp ⟨[iS 43 .int],some [],[]⟩ (some ⟨[],some [],[]⟩) true .e)))) .e) .e))))) .e))) Tryz.func158
theorem c136:FK ⟨136,[.str],[.str,.int,.int],fun x=>zEw x⟩:=mk (fcons c98 anil) (.e) Tryz.func136
theorem c59:FK ⟨59,[(.st 79)],[(.st 79)],fun x=>zBW x⟩:=mk (fcons c110 (fcons c109 anil)) (.n .e (.n .e (.n (.n .e (.lp ⟨[iS 13 .int,iC 3 0 (.sl (.st 278)),⟨.cs 3 1,(.sl (.st 87)),some 87⟩],some [],[]⟩ (some ⟨[iC 3 0 (.sl (.st 278)),⟨.cs 3 1,(.sl (.st 87)),some 87⟩],some [],[]⟩) false .e)) .e))) Tryz.func59 [(5,5,[.t 0,.t 1,.t 2,.l 3 true,.l 4 true,.l 5 false,.l 6 false,.l 7 false])]
theorem c88:FK ⟨88,[(.sl (.st 138)),.int,.str],[(.sl (.st 138))],fun x=>zKz x.1 x.2.1 x.2.2⟩:=mk (fcons c69 anil) (.e) Tryz.func88
end Go.Proofs
namespace Go.Proofs
open Go.Eng Go.Eng.Pure
theorem zFp {b:World} {c:Hp} (hw:Holds b c) (d:Str) (f:UInt8) {r:Int} (h:strings_IndexByte d f=some r) :
  Ci Tryz.prog 169 [(str d),(byt f)] b c r :=
 zT7 Tryz.func169 rfl kr hw h Tryz.strings_IndexByte
end Go.Proofs
namespace Go.Proofs
open Go Go.Eng Go.VI Go.Eng.Pure
theorem c169:FK ⟨169,[.str,.byt],[.int],fun x=>strings_IndexByte x.1 x.2⟩:=@fun w H az x y hw hg i hT h=>by
 obtain ⟨b,_,rfl,c,⟨d,rfl,f⟩⟩:=hT;obtain rfl:b=_:=c;obtain rfl:d=_:=f;exact (zFp hw x.1 x.2 h).mono (fun _ _ e=>⟨[_],e,_,rfl,rfl⟩)
theorem c168:FK ⟨168,[.byt],[.boo],fun x=>zCc x⟩:=mk anil (.e) Tryz.func168
theorem c167:FK ⟨167,[.byt],[.int],fun x=>zDV x⟩:=mk (fcons c169 (fcons c149 anil)) (.e) Tryz.func167
theorem c101:FK ⟨101,[.str],[.str,.boo],fun x=>zCs x⟩:=mk (fcons c169 (fcons c168 (fcons c167 anil))) (.n .e (.n .e (.n (.n .e (.lp ⟨[iR 4 (.sl .byt) 5,iS 5 .int],some [],[]⟩ (some ⟨[iR 4 (.sl .byt) 5],some [],[]⟩) true .e)) .e))) Tryz.func101 [(15,6,[.t 0,.t 1,.t 2,.t 3,.t 4,.l 5 true,.l 6 false,.l 7 false])]
theorem c97:FK ⟨97,[.str],[.boo],fun x=>zC6 x⟩:=mk (fcons c120 anil) (.e) Tryz.func97
theorem c170:FK ⟨170,[.byt],[.boo],fun x=>zGT x⟩:=mk (fcons c168 anil) (.e) Tryz.func170
theorem c102:FK ⟨102,[.str],[.str,.int,.boo],fun x=>zDs x⟩:=mk (fcons c170 (fcons c149 (fcons c139 (fcons c100 anil)))) (.n .e (.n .e (.n (.n .e (.lp ⟨[iS 20 .int],some [],[]⟩ (some ⟨[],some [],[]⟩) true .e)) (.n .e (.n .e (.n (.n .e (.j ⟨[iS 9 .int],some [],[]⟩ true .e)) .e)))))) Tryz.func102
theorem c57:FK ⟨57,[(.st 65)],[.str],fun x=>zCp x⟩:=mk (fcons c69 anil) (.e) Tryz.func57
theorem c35:FK ⟨35,[(.st 65)],[.str],fun x=>zGG x⟩:=mk (fcons c57 anil) (.n .e (.n .e (.n (.n .e (.j ⟨[iS 3 .str],some [],[]⟩ false .e)) .e))) Tryz.func35
end Go.Proofs
namespace Go.Proofs
open Go.Eng Go.Eng.Pure
theorem zYM:zer Tryz.prog 243=some [(.map none)]:=kr
theorem zM2:lay Tryz.prog 243=some (false,1):=kr
instance:Lay Tryz.prog 243 (false,1):=⟨zM2⟩
end Go.Proofs
namespace Go.Proofs
open Go Go.Eng Go.VI Go.Eng.Pure
theorem c241:FK ⟨241,[.int,.byt],[.int],fun x=>zJ5 x.1 x.2⟩:=mk anil (.e) Tryz.func241
theorem c183:FK ⟨183,[.str],[(.sl .str)],fun x=>zI0 x⟩:=mk (fcons c242 (fcons c241 anil)) (.n .e (.n .e (.n .e (.n (.n .e (.lp ⟨[iR 3 (.sl .str) 9,iS 4 .int,iS 5 .int,iS 6 .int],some [],[]⟩ (some ⟨[iR 3 (.sl .str) 9],some [],[]⟩) false .e)) .e)))) Tryz.func183
noncomputable section
variable {l:List (GE UU)} (h:GamOk Tryz.prog (gal l))
def w131:WE Tryz.prog UU:=wJ 131 h (.n .e (.n .e (.n (.n .e (.lp ⟨[iR 5 (.sl (.st 138)) 138,iS 10 .int],some [],[]⟩ (some ⟨[iR 5 (.sl (.st 138)) 138],some [],[]⟩) false .e)) .e))) [(.sl (.st 138))] [] Tryz.func131
def w132:WE Tryz.prog UU:=wI 132 h (.e) Tryz.func132
def w195:WE Tryz.prog UU:=wJ 195 h (.e) [.boo] [] Tryz.func195
end
theorem c96:FK ⟨96,[(.sl (.st 138)),.str],[(.sl .str)],fun x=>zCd x.1 x.2⟩:=mk (wc w131 (wc w132 (wc w195 (fcons c149 anil)))) (.n .e (.n .e (.n (.n .e (.lp ⟨[iR 5 (.sl .str) 9,iS 13 .int],some [],[]⟩ (some ⟨[iR 5 (.sl .str) 9],some [],[]⟩) false .e)) .e))) Tryz.func96
theorem c118:FK ⟨118,[(.sl (.st 138)),.str],[(.sl .str)],fun x=>zC3 x.1 x.2⟩:=mk (fcons c183 (fcons c96 anil)) (.n .e (.n .e (.n (.n .e (.lp ⟨[iR 5 (.sl .str) 9,iS 12 .int],some [],[]⟩ (some ⟨[iR 5 (.sl .str) 9],some [],[]⟩) false .e)) .e))) Tryz.func118
theorem zJZ {c:World} {b:Hp} (hw:Holds c b) (hG:GlX c b) (d:(List GField)) (f:Str) {i:Value} (j:Sl b i d) {r:(List Str)} (h:zC3 d f=some r) :
  Con Tryz.prog 118 [i,(str f)] c b (fun H' v=>Sl H' v r):=by
 refine (c118 (xs:=(d,f)) (y:=r) hw hG.ok hG.gs ⟨_,_,rfl,j,⟨_,rfl,rfl⟩⟩ h).mono ?_;rintro _ v ⟨_,rfl,D⟩;obtain ⟨k,rfl,K0⟩:=D;exact K0
end Go.Proofs
namespace Go.Proofs
open Go.Eng Go.Eng.Pure
theorem zJM {f ws:World} {h Hs:Hp} {i:List Ent} (S:St f h ws Hs i) (s sep:Str) (n:Int) :
  ConS Tryz.prog 213 [str s,str sep,int n] f h ws Hs i (fun H' v L'=>∃ b c d:Nat,L'=[.box b 9 [str sep],.box c 9 [str s],.box d 3 [int n]]∧v=.func (.func 249) #[] [ptr b 0,ptr c 0,ptr d 0].toArray):=by
 refine ConS.mk (N:=8) Tryz.func213 rfl rfl kr rfl<|Ws<|Wg ?_;refine W.box [str s] S rfl rfl ?_;intro c j S;refine W.box [str sep] S rfl rfl ?_;intro b k S;refine W.box [int n] S rfl rfl ?_;intro d l S;refine A<|We<|Ws<|Wg ?_;refine WL.wz (R.mkFunc (vs:=[ptr b 0,ptr c 0,ptr d 0]) rfl)<|A<|We ?_;have S3:=(S.front 2 rfl).front 2 rfl;refine WP.ret (OutS.one (L':=[.box b 9 [str sep],.box c 9 [str s],.box d 3 [int n]]) rfl lr S3 rfl ?_);exact ⟨_,_,_,rfl,rfl⟩
theorem zFt {f ws:World} {h Hs:Hp} {i:List Ent} (S:St f h ws Hs i) (s sep:Str) :
  ConS Tryz.prog 150 [str s,str sep] f h ws Hs i (fun H' v L'=>∃ b c d:Nat,L'=[.box b 9 [str sep],.box c 9 [str s],.box d 3 [int 0]]∧v=.func (.func 249) #[] [ptr b 0,ptr c 0,ptr d 0].toArray):=by
 refine ConS.mk (N:=8) Tryz.func150 rfl rfl kr rfl<|Ws<|Wg<|A<|We<|Ws<|Wg<|M<|M<|W.callS rfl (zJM S s sep 0) ?_;rintro _ j k _ hle S ⟨b,c,d,rfl,rfl⟩;refine WL.wz (R.as rfl)<|We ?_;refine WP.ret (OutS.one rfl hle S rfl ?_);exact ⟨_,_,_,rfl,rfl⟩
theorem lay3:lay Tryz.prog 3=some (false,1):=kr
instance:Lay Tryz.prog 3 (false,1):=⟨lay3⟩
theorem zEt {j ws:World} {o Hs:Hp} {L2:List Ent} (hG:GlX j o) {s:Str} {c:UInt8} {p d u l bm TB q t:Nat} {r:Loop} {m:List (Str×Bool)} (E:List (Str×Bool)→Str→List (Str×Bool)) (hl:s.length≤1073741824)
  (hp:r.params=#[t])
  (hY:∀ (k:Str) (m:List (Str×Bool)) (w:World) (H:Hp) (L:List Ent),St j o w H (.obj l (.loop r) :: .box bm TB [mapv q] :: .mp q (encm boo m) :: L) →
   RoundIn Fence.wide 0 Tryz.prog l r.fn ((r.params.zip #[str k]).foldl (fun tmps (t,a)=>tmps.setIfInBounds t a) r.tmps) r.assign r.body w (fun e w'=>e=.returned (.bool true)∧St j o w' H (.obj l (.loop r) :: .box bm TB [mapv q] :: .mp q (encm boo (E m k)) :: L)))
  (S:St j o ws Hs (.obj l (.loop r) :: .box bm TB [mapv q] :: .mp q (encm boo m) :: .box p 9 [str [c]] :: .box d 9 [str s] :: .box u 3 [int 0] :: L2)) :
  ConS Tryz.prog 249 [.func (.yield l) #[] #[],ptr p 0,ptr d 0,ptr u 0] j o ws Hs L2 (fun H' v L'=>∃ s',L'=[.obj l (.loop r),.box bm TB [mapv q],.mp q (encm boo ((pieces c s).foldl E m)),.box p 9 [str [c]],.box d 9 [str s'],.box u 3 [int 0]]∧v=.tuple #[]):=by
 refine ConS.mk (N:=52) Tryz.func249 rfl rfl kr rfl<|Ws<|Ws<|Wg ?_;refine Lo 3 S<|Ns ?_;refine WL.wz (v:=boo false) (R.ofEq (R.eql (a:=1) (b:=0) rfl rfl) rfl)<|We<|WP.condF (b:=false) rfl rfl<|Wk<|Ws ?_;refine WP.cut (fun f w=>∃ (s':Str) (m':List (Str×Bool)) (H:Hp),f 0=.func (.yield l) #[] #[]∧f 2=ptr d 0∧Hs.le H∧E m' s'=(pieces c s).foldl E m∧St j o w H (.obj l (.loop r) :: .box bm TB [mapv q] :: .mp q (encm boo m') :: .box p 9 [str [c]] :: .box d 9 [str s'] :: .box u 3 [int 0] :: L2)) ?_ ?_
 ·refine Wb ?_
  refine WP.loopK (fun (x:Str×List (Str×Bool)) f w=>∃ (H:Hp),f 0=.func (.yield l) #[] #[]∧f 1=ptr p 0∧f 2=ptr d 0∧f 3=ptr u 0∧Hs.le H∧x.1.length≤1073741824∧(pieces c x.1).foldl E x.2=(pieces c s).foldl E m ∧
    St j o w H (.obj l (.loop r) :: .box bm TB [mapv q] :: .mp q (encm boo x.2) :: .box p 9 [str [c]] :: .box d 9 [str x.1] :: .box u 3 [int 0] :: L2)) (fun x=>x.1.length) (s,m) ⟨Hs,rfl,rfl,rfl,rfl,Hp.le.refl _,hl,rfl,S⟩ ?_
  rintro ⟨x,y⟩ f w ⟨H,z,h1,h,h3,hle,hlx,hE,S⟩;simp only at hlx hE;refine Wb<|Ws<|Wg ?_;refine Lo' 4 S h ?_;refine Lo' 3 S h1<|W.call S rfl (zFj S.holds (hG.pstX S.post) x [c] (r:=Lib.indexByte x c) rfl) ?_;rintro _ w1 H1 ae S rfl;refine A<|We<|Ws<|Ws<|Wg<|M<|La<|We ?_;rcases zMe x c with ⟨hi,hno⟩ | ⟨a,b,rfl,hno,hi⟩
  ·refine WP.condT (b:=decide (Lib.indexByte x c<0)) rfl (by rw [hi]; rfl)<|Wx ?_
   refine ⟨x,y,H1,z,h,hle.trans ae,?_,S⟩;rw [← hE,zML c x hno]; rfl
  have hla:a.length+1+b.length≤1073741824:=by simp only [lA,lC] at hlx; omega
  refine WP.condF (b:=decide (Lib.indexByte (a++c :: b) c<0)) rfl (by rw [hi]; exact decide_eq_false (by omega))<|Wk<|Ws<|Wg ?_;refine Lo' 4 S h ?_;refine WL.wz (R.mv (v:=int a.length) (by rw [← hi]; rfl)) ?_;refine Lo' 5 S h3 ?_;refine WL.wz (v:=int a.length) (R.ofEq (R.add rfl rfl) (by rw [Int.add_zero,wr_eq (by omega)]))<|Jd (zVg a b c)<|A<|We<|Ws ?_;refine Ws<|WP.regionY [0,1,2,3] rfl ?_;refine WY.valw rfl (R.mv (v:=.func (.yield l) #[] #[]) z) ?_;refine WY.valw rfl (R.mv (v:=str a) rfl)<|WY.yield rfl rfl rfl (S.objAt (i:=0) rfl) (by rw [hp]; rfl) (hY a y w1 H1 _ S) ?_;intro w2 S;refine WY.valw rfl (R.not (b:=true) rfl)<|WY.nil<|WP.condF (b:=false) rfl rfl<|Wk<|Wg ?_;refine Lo' 4 S h ?_;refine WL.wz (R.mv (v:=int a.length) (by rw [← hi]; rfl)) ?_;refine Lo' 3 S h1<|Ns ?_;refine WL.wz (v:=int ((a.length+1:Nat):Int)) (R.ofEq (R.add rfl rfl) (by rw [wr_eq (by simp; omega)]; rfl))<|Jc (zTf a b c) ?_;refine W.store (i:=4) [str b] S h rfl rfl lay9 rfl rfl (nL kr) rfl ?_;intro w3 S;refine We ?_;refine ⟨(b,E y a),by simp; omega,H1,z,h1,h,h3,hle.trans ae,by simp; omega,?_,S⟩;rw [← hE,zMh c a b hno]; rfl
 rintro f w ⟨s',m',H,z,h,hle,hE,S⟩;refine WP.regionY [0,1,2] rfl ?_;refine WY.valw rfl (R.mv (v:=.func (.yield l) #[] #[]) z) ?_;refine WY.valw rfl (R.loadB (i:=4) (v:=str s') S h rfl lay9 rfl)<|WY.yield rfl rfl rfl (S.objAt (i:=0) rfl) (by rw [hp]; rfl) (hY s' m' w H _ S) ?_;intro w2 S;refine WY.nil<|OutS.zero (L':=[.obj l (.loop r),.box bm TB [mapv q],.mp q (encm boo (E m' s')),.box p 9 [str [c]],.box d 9 [str s'],.box u 3 [int 0]]) (.inr rfl) rfl hle S ?_;exact ⟨s',by rw [hE],rfl⟩
theorem zGn:lay Tryz.prog 138=some (true,2):=kr
instance:Lay Tryz.prog 138 (true,2):=⟨zGn⟩
theorem zRB:zer Tryz.prog 138=some [(str []),(str [])]:=kr
theorem zU4:fld Tryz.prog 138 0=some 0:=kr
instance:Fld Tryz.prog 138 0 0:=⟨zU4⟩
theorem zOH {l:World} {j:Hp} (hw:Holds l j) (hG:GlX l j) (x:(List GField)) {aa:Value} (b:Sl j aa x) {r:(List GField)} (h:zFZ x=some r) :
  Con Tryz.prog 89 [aa] l j (fun H' v=>Sl H' v r):=by
 refine Con.mkR (N:=49) Tryz.func89 rfl rfl kr rfl ?_;have S:=St.start hw;refine WPR.seq<|WPR.of<|Wg<|A<|We<|WPR.seq<|WPR.of<|Wg<|W.makeMap S ?_;intro c w2 S;refine W.alloc [(.map none)] S zYM ?_;intro o w4 S;refine W.store (i:=0) [(mapv c)] S rfl rfl rfl zM2 rfl rfl (nL kr) rfl ?_;intro w5 S;refine We<|WPR.seq<|WPR.of<|Ws<|Wg<|M<|B h fun r6 bq h=>W.call S rfl (zJZ S.holds (hG.pstX S.post) x [67,111,110,110,101,99,116,105,111,110] b bq) ?_
 rintro v7 w8 H9 bs S ab;have b:=b.up bs;refine Nq ab<|M<|We<|B h fun ah bt h=>WP.cut (fun f w=>∃ (aw:Hp),f 0=aa∧f 3=(ptr o 0)∧Sl aw aa x∧St l j w aw [.box o 243 [(mapv c)],.mp c (encm boo ah)]) ?_ ?_
 ·refine Wb ?_
  refine WP.loopM (zEJ r6) (fun s f w=>match s with | (bf,ax)=>∃ (ae:Hp),f 0=aa∧f 3=(ptr o 0)∧f 13=v7∧f 14=(int (r6.length:Int))∧f 15=(int bf)∧Sl ae aa x∧Sl ae v7 r6∧St l j w ae [.box o 243 [(mapv c)],.mp c (encm boo ax)]) (0,([]:List (Str×Bool))) ah bt ?_ ?_
  ·exact ⟨H9,rfl,rfl,rfl,rfl,rfl,b,ab,S⟩
  intro s f w hI cz t bu;obtain ⟨bf,ax⟩:=s;obtain ⟨ae,bg,ay,bh,bi,az,b,ab,S⟩:=hI;refine Ws<|Wg<|La' az bi<|We<|Ws ?_;rcases condE t with ⟨a0,t⟩ | ⟨a0,t⟩
  ·refine CT a0<|Wk<|Ws<|Wb<|Ws<|Wg<|B t fun bv bw t=>W.idx (α:=Str) ab bh az el33 bw ?_
   rintro c0 _ bx rfl;refine Lq S bx<|A<|We<|WP.quietTail 3 S kr kr ?_;refine WQ.val (fun w hw=>by obtain ⟨_,hq,S⟩:=hw; exact (R.loadB (i:=0) (v:=mapv c) S ay rfl zM2 rfl))<|QM<|B t fun bz b0 t=>WQ.call (v:=str bz) rfl (fun w H' hq S=>zBJ S.holds (hG.pstX S.post) bv b0)<|WQ.nil ?_
   intro c1 b2 b4 S;have ⟨b,ab⟩:=U2 b4 b ab;refine W.mapUpdate boo (i:=1) (m:=ax) true S rfl rfl rfl rfl rfl Tryz.underlying243 Tryz.underlying9 ?_;intro c2 S;refine We<|Wg<|Lg' az rfl<|M<|We ?_;obtain rfl:=oi t;exact ⟨rfl,⟨b2,bg,ay,bh,bi,rfl,b,ab,S⟩⟩
  refine CF a0<|Wx ?_;obtain rfl:=oi t;obtain rfl:=bu;exact ⟨ae,bg,ay,b,S⟩
 rintro f w ⟨aw,b5,a1,b,S⟩;refine WPR.seq<|WPR.seq<|WPR.of<|Wg<|W.callS rfl (zFt S [104,111,115,116,32,99,97,99,104,101,45,99,111,110,116,114,111,108,32,118,97,114,121,32,118,97,114,105,97,110,116,115,32,118,97,114,105,97,110,116,45,107,101,121,32,118,105,97] [32]) ?_;rintro _ c3 bj _ b6 S ⟨ai,aj,ak,rfl,rfl⟩;replace S:St l j _ bj [.box ai 9 [(str [32])],.box aj 9 [(str [104,111,115,116,32,99,97,99,104,101,45,99,111,110,116,114,111,108,32,118,97,114,121,32,118,97,114,105,97,110,116,115,32,118,97,114,105,97,110,116,45,107,101,121,32,118,105,97])],.box ak 3 [(int 0)],.box o 243 [(mapv c)],.mp c (encm boo ah)]:=S;have b:=b.up b6;refine We<|WPR.block ?_;replace S:=S.front 2 rfl;replace S:=S.front 2 rfl;replace S:=S.front 2 rfl;replace S:=S.front 4 rfl;replace S:=S.front 4 rfl;replace S:St l j _ bj [.box o 243 [(mapv c)],.mp c (encm boo ah),.box ai 9 [(str [32])],.box aj 9 [(str [104,111,115,116,32,99,97,99,104,101,45,99,111,110,116,114,111,108,32,118,97,114,121,32,118,97,114,105,97,110,116,115,32,118,97,114,105,97,110,116,45,107,101,121,32,118,105,97])],.box ak 3 [(int 0)]]:=S;refine B h fun a2 b7 h=>WPR.range (caps:=[(ptr ai 0),(ptr aj 0),(ptr ak 0)]) S rfl (zHk Tryz.func249 rfl kr) ?_
 intro fn ac c6 S;replace S:=S.front 3 rfl;replace S:=S.front 3 rfl;replace S:=S.front 2 rfl;replace S:=S.front 6 rfl;replace S:=S.front 6 rfl;replace S:=S.front 6 rfl;replace S:=S.front 5 rfl;replace S:=S.front 5 rfl;replace S:=S.front 5 rfl;refine Calls.mono (zEt hG (fun m k=>mdel m k) (nL kr) rfl (by exact fun k m w H L S=>Round.del S ⟨rfl,a1,rfl,rfl,rfl⟩ (i1:=0) (i2:=1) rfl rfl zM2 rfl Tryz.underlying243 Tryz.underlying9) S).2 ?_;rintro _ c7 ⟨v,bn,L3,rfl,b9,S,s9,rfl,rfl⟩;refine ⟨_,rfl,bn,_,S,?_⟩;intro c8 S;rw [oi b7] at S;replace S:St l j _ bn [.box o 243 [(mapv c)],.mp c (encm boo a2),.box ai 9 [(str [32])],.box aj 9 [(str s9)],.box ak 3 [(int 0)],.obj ac (.deferred (some []))]:=S;replace S:=(S.pk [0,1,5]);have b:=b.up b9;refine WPR.seq<|WPR.seq<|WPR.of<|Wg<|W.callS rfl (zFt S [99,111,110,110,101,99,116,105,111,110,32,107,101,101,112,45,97,108,105,118,101,32,112,114,111,120,121,45,99,111,110,110,101,99,116,105,111,110,32,112,114,111,120,121,45,97,117,116,104,101,110,116,105,99,97,116,101,32,112,114,111,120,121,45,97,117,116,104,111,114,105,122,97,116,105,111,110,32,116,101,32,116,114,97,105,108,101,114,32,116,114,97,110,115,102,101,114,45,101,110,99,111,100,105,110,103,32,99,111,110,116,101,110,116,45,108,101,110,103,116,104,32,117,112,103,114,97,100,101] [32]) ?_;rintro _ c9 bo _ ca S ⟨al,am,an,rfl,rfl⟩;replace S:St l j _ bo [.box al 9 [(str [32])],.box am 9 [(str [99,111,110,110,101,99,116,105,111,110,32,107,101,101,112,45,97,108,105,118,101,32,112,114,111,120,121,45,99,111,110,110,101,99,116,105,111,110,32,112,114,111,120,121,45,97,117,116,104,101,110,116,105,99,97,116,101,32,112,114,111,120,121,45,97,117,116,104,111,114,105,122,97,116,105,111,110,32,116,101,32,116,114,97,105,108,101,114,32,116,114,97,110,115,102,101,114,45,101,110,99,111,100,105,110,103,32,99,111,110,116,101,110,116,45,108,101,110,103,116,104,32,117,112,103,114,97,100,101])],.box an 3 [(int 0)],.box o 243 [(mapv c)],.mp c (encm boo a2),.obj ac (.deferred (some []))]:=S;have b:=b.up ca;refine We<|WPR.block ?_;replace S:=S.front 5 rfl;replace S:=S.front 3 rfl;replace S:=S.front 3 rfl;replace S:=S.front 3 rfl;replace S:=S.front 5 rfl;replace S:=S.front 5 rfl;replace S:St l j _ bo [.box o 243 [(mapv c)],.mp c (encm boo a2),.box al 9 [(str [32])],.box am 9 [(str [99,111,110,110,101,99,116,105,111,110,32,107,101,101,112,45,97,108,105,118,101,32,112,114,111,120,121,45,99,111,110,110,101,99,116,105,111,110,32,112,114,111,120,121,45,97,117,116,104,101,110,116,105,99,97,116,101,32,112,114,111,120,121,45,97,117,116,104,111,114,105,122,97,116,105,111,110,32,116,101,32,116,114,97,105,108,101,114,32,116,114,97,110,115,102,101,114,45,101,110,99,111,100,105,110,103,32,99,111,110,116,101,110,116,45,108,101,110,103,116,104,32,117,112,103,114,97,100,101])],.box an 3 [(int 0)],.obj ac (.deferred (some []))]:=S;refine B h fun ao cb h=>WPR.range (caps:=[(ptr al 0),(ptr am 0),(ptr an 0)]) S rfl (zHk Tryz.func249 rfl kr) ?_
 intro fn ap da S;replace S:=S.front 3 rfl;replace S:=S.front 3 rfl;replace S:=S.front 2 rfl;replace S:=S.front 6 rfl;replace S:=S.front 6 rfl;replace S:=S.front 6 rfl;replace S:=S.front 5 rfl;replace S:=S.front 5 rfl;replace S:=S.front 5 rfl;refine Calls.mono (zEt hG (fun m k=>mset m k true) (nL kr) rfl (by exact fun k m w H L S=>Round.set S ⟨rfl,a1,rfl,rfl,rfl⟩ (i1:=0) (i2:=1) rfl rfl zM2 Tryz.underlying243 Tryz.underlying9) S).2 ?_;rintro _ db ⟨v,a4,L3,rfl,cc,S,s9,rfl,rfl⟩;refine ⟨_,rfl,a4,_,S,?_⟩;intro dc S;rw [oi cb] at S;replace S:St l j _ a4 [.box o 243 [(mapv c)],.mp c (encm boo ao),.box al 9 [(str [32])],.box am 9 [(str s9)],.box an 3 [(int 0)],.obj ap (.deferred (some [])),.obj ac (.deferred (some []))]:=S;replace S:=(S.pk [0,1,5,6]);have b:=b.up cc;refine WPR.of<|Ws<|Wg<|A<|We<|Ws<|Ws<|Wg<|M' b5<|Nq b<|M<|We ?_;have S:=S.addNil 138 2;refine B h fun a5 cd h=>WP.cut (fun f w=>∃ (a6:Hp) (aq:Value),f 8=aq∧Sl a6 aq a5∧St l j w a6 [.row aq 138 2 a5.length,.obj ap (.deferred (some [])),.obj ac (.deferred (some []))]) ?_ ?_
 ·refine Wb ?_
  refine WP.loopM (zGp x ao) (fun s f w=>match s with | (a7,bp)=>∃ (af:Hp) (ad:Value),f 3=(ptr o 0)∧f 8=ad∧f 31=aa∧f 32=(int (x.length:Int))∧f 33=(int bp)∧Sl af ad a7∧Sl af aa x∧St l j w af [.row ad 138 2 a7.length,.box o 243 [(mapv c)],.mp c (encm boo ao),.obj ap (.deferred (some [])),.obj ac (.deferred (some []))]) (([]:List GField),0) a5 cd ?_ ?_
  ·exact ⟨a4,.slice none 0 0,a1,rfl,rfl,rfl,rfl,Sl.nil,b,S⟩
  intro s f w hI dd d ce;obtain ⟨a7,bp⟩:=s;obtain ⟨af,ad,a8,a9,ba,bb,au,u,b,S⟩:=hI;refine Ws<|Wg<|La' au bb<|We<|Ws ?_;rcases condE d with ⟨bc,d⟩ | ⟨bc,d⟩
  ·refine CT bc<|Wk<|Ws<|Wb<|Ws<|Wg<|B d fun p cf d=>W.idx (α:=GField) b ba au el61 cf ?_
   rintro de _ cg rfl;refine WL.wz (R.loadHN (vs:=[(str p.fName),(str p.fValue)]) S rfl cg zGn rfl rfl) ?_;refine W.alloc [(str []),(str [])] S zRB ?_;intro df dg S;refine W.store (i:=0) [(str p.fName),(str p.fValue)] S rfl rfl rfl zGn rfl rfl (nL kr) rfl ?_;intro dh S;refine We<|Ws<|WP.quiet S kr kr ?_;refine WQ.val (fun w hw=>by obtain ⟨_,hq,S⟩:=hw; exact (R.loadB (i:=2) (v:=mapv c) S a8 rfl zM2 rfl))<|QFb ?_;refine QB 0 (str p.fName)<|B d fun ch ci d=>WQ.call (v:=str ch) rfl (fun w H' hq S=>zBJ S.holds (hG.pstX S.post) p.fName ci)<|B d fun g103 cj d=>?_
   refine WQ.val (v:=boo g103.1) (fun w hw=>by obtain ⟨_,hq,S⟩:=hw; exact (R.ofEq (R.lookup1 boo (i:=3) (m:=ao) (z:=false) S rfl rfl rfl Tryz.underlying243 Tryz.underlying9 mz4 rfl) (by rw [oi cj])))<|QNo<|WQ.nil ?_;intro di ck cl S;have ⟨u,b⟩:=U2 cl u b;rcases condE d with ⟨bd,d⟩ | ⟨bd,d⟩
   ·refine CT bd<|Wg<|M' a9 ?_
    refine WL.wz (R.loadBN (i:=0) (vs:=[(str p.fName),(str p.fValue)]) S rfl rfl zGn rfl rfl)<|W.bslice (α:=GField) [(agg [(str p.fName),(str p.fValue)])] ([p]:List GField) S el61 rfl rfl rfl (by decide) (Go.Eng.encS ⟨rfl,rfl⟩ enc0) ?_;intro dj dk dl cm cn S;have ⟨u,b⟩:=U2 cm u b;refine B d fun dm co d=>W.app (α:=GField) (i:=2) S el61 rfl rfl rfl u cn co ?_
    intro cp w112 cq cr cs S;have ⟨u,b⟩:=U2 cr u b;refine A<|We<|Wg<|Lg' au rfl<|M<|We ?_;obtain rfl:=oi d;exact ⟨rfl,⟨cq,cp,a8,rfl,ba,bb,rfl,cs,b,(S.pk [2,3,4,5,6])⟩⟩
   refine CF bd<|Wk<|Wg<|Lg' au rfl<|M<|We ?_;obtain rfl:=oi d;exact ⟨rfl,⟨ck,ad,a8,a9,ba,bb,rfl,u,b,(S.pk [1,2,3,4,5])⟩⟩
  refine CF bc<|Wx ?_;obtain rfl:=oi d;obtain rfl:=ce;exact ⟨af,ad,a9,u,(S.pk [0,3,4])⟩
 rintro f w ⟨a6,aq,ct,cu,S⟩;refine Ws<|Wg<|M' ct<|A<|We ?_;obtain rfl:=oi h;replace S:=S.front 2 rfl;replace S:=S.front 2 rfl;refine WP.ret (OutR.one [ap,ac] rfl rfl S rfl ?_);exact cu
end Go.Proofs
