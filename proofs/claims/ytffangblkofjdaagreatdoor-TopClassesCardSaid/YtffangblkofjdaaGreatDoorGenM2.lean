/- A part. -/
import Derived.Test.YtffangblkofjdaaGreatDoorEng38
import Derived.Test.YtffangblkofjdaaGreatDoorEng35
import Derived.Test.YtffangblkofjdaaGreatDoorGenM1
namespace Go.Proofs
set_option maxHeartbeats 4000000
set_option maxRecDepth 10000
open Go Go.Eng Go.VI Go.Eng.Pure
set_option linter.unusedVariables false
set_option maxRecDepth 10000
set_option maxHeartbeats 4000000
theorem c78:FE.ok (U:=UU) Tryz.prog ⟨78,[(.sl (.st 41))],[(.st 153)],fun x=>zCG x⟩:=@fun w H az x y hw hg b hT h=>by
 obtain ⟨d,rfl,c⟩:=hT
 exact (zE3 hw b x c h).mono (fun _ _ e=>⟨[_],e,_,rfl,⟨_,rfl,rfl⟩⟩)
end Go.Proofs
namespace Go.Proofs
open Go.Eng Go.Eng.Pure
set_option linter.unusedVariables false
theorem lay36:lay Tryz.prog 36=some (false,1):=by kernel_rfl
instance:Lay Tryz.prog 36 (false,1):=⟨lay36⟩
theorem el22:Elem Tryz.prog 22 62 2:=zEu kr
theorem lay62:lay Tryz.prog 62=some (true,2):=by kernel_rfl
instance:Lay Tryz.prog 62 (true,2):=⟨lay62⟩
theorem zer3:zer Tryz.prog 3=some [(int 0)]:=by kernel_rfl
theorem zer62:zer Tryz.prog 62=some [(str []),(.slice none 0 0)]:=by kernel_rfl
theorem zL8:fld Tryz.prog 62 1=some 1:=by kernel_rfl
instance:Fld Tryz.prog 62 1 1:=⟨zL8⟩
theorem zMq:fld Tryz.prog 62 0=some 0:=by kernel_rfl
instance:Fld Tryz.prog 62 0 0:=⟨zMq⟩
def Tryz.vvariants_domain:Gvariants_domain→Value
 | .media=>.iface 173 (agg [])
 | .tags=>.iface 174 (agg [])
 | .words n=>.iface 175 (int n)
 | .texts=>.iface 176 (agg [])
end Go.Proofs
namespace Go.Proofs
open Go Go.Eng Go.VI Go.Eng.Pure
set_option linter.unusedVariables false
set_option maxRecDepth 10000
set_option maxHeartbeats 4000000
theorem c98:FE.ok (U:=UU) Tryz.prog ⟨98,[.int],[.str],fun x=>zBC x⟩:=mk anil (.e) Tryz.func98
theorem c97:FE.ok (U:=UU) Tryz.prog ⟨97,[.str,.str],[.boo],fun x=>zA0 x.1 x.2⟩:=mk (fcons c25 anil) (.e) Tryz.func97
theorem c51:FE.ok (U:=UU) Tryz.prog ⟨51,[.str],[.int],fun x=>zCn x⟩:=mk (fcons c98 (fcons c97 anil)) (.n .e (.n (.n .e (.un 6 .e)) .e)) Tryz.func51
theorem zJv {b:World} {d:Hp} (hw:Holds b d) (hG:Tryz.Gl b) (c:Str) {r:Int} (h:zCn c=some r) :
  Ci Tryz.prog 51 [(str c)] b d r:=by
 refine (c51 (xs:=(c)) (y:=r) hw (fun _ _ e=>by cases e) hG ⟨_,rfl,rfl⟩ h).mono ?_
 rintro _ v ⟨_,rfl,D⟩
 obtain ⟨f,rfl,i⟩:=D
 obtain rfl:f=_:=i
 exact rfl
end Go.Proofs
namespace Go.Proofs
open Go.Eng Go.Eng.Pure
set_option linter.unusedVariables false
theorem bp173:zGJ Tryz.prog 173=some []:=by kernel_rfl
theorem zSe:zer Tryz.prog 173=some []:=by kernel_rfl
theorem bp174:zGJ Tryz.prog 174=some []:=by kernel_rfl
theorem zSc:zer Tryz.prog 174=some []:=by kernel_rfl
theorem bp176:zGJ Tryz.prog 176=some []:=by kernel_rfl
theorem zSa:zer Tryz.prog 176=some []:=by kernel_rfl
theorem zD5 {c:World} {i:Hp} (hw:Holds c i) (hG:Tryz.Gl c) (j:Str) {r:Gvariants_domain} (h:zBk j=some r) :
  Con Tryz.prog 46 [(str j)] c i (fun H' v=>v=(Tryz.vvariants_domain r)):=by
 refine CM 22 Tryz.func46 hw fun S=>?_
 refine Ws<|Wg<|A<|We<|Ws<|Ws<|Wg<|M<|B h fun u ac h=>W.call S rfl (zJv S.holds (hG.post S.post) j ac) ?_
 rintro v2 w3 x ai S rfl
 refine A<|We<|Ws<|Wg<|M<|We<|B h fun z b h=>WP.cut (fun f w=>match z with | .inl _=>∃ (H6:Hp),St c i w H6 [] | .inr _=>False) ?_ ?_
 ·refine Wb<|Ws<|Wg<|Le<|A<|We ?_
  rcases condE b with ⟨k,b⟩ | ⟨k,b⟩
  ·refine CT k<|Ws<|Wg ?_
   refine WL.w (R.build [] [] bp173 zSe rfl rfl) ?_
   refine WL.w (v:=Tryz.vvariants_domain (.media:Gvariants_domain)) (R.ofEq (R.mkIface rfl Tryz.underlying173 (by intro _ h; cases h)) rfl)<|A<|We ?_
   obtain rfl:=oi b
   obtain rfl:=oi h
   refine WP.ret (Out.one rfl S rfl ?_)
   exact rfl
  refine CF k<|Ws<|Wg<|Le<|A<|We ?_
  rcases condE b with ⟨l,b⟩ | ⟨l,b⟩
  ·refine CT l<|Ws<|Wg ?_
   refine WL.w (R.build [] [] bp174 zSc rfl rfl) ?_
   refine WL.w (v:=Tryz.vvariants_domain (.tags:Gvariants_domain)) (R.ofEq (R.mkIface rfl Tryz.underlying174 (by intro _ h; cases h)) rfl)<|A<|We ?_
   obtain rfl:=oi b
   obtain rfl:=oi h
   refine WP.ret (Out.one rfl S rfl ?_)
   exact rfl
  refine CF l<|Ws<|Ws<|Wg<|Le<|A<|We<|B b fun ad d b=>WP.cut (fun f w=>∃ (o:Hp),f 3=(int u)∧f 15=(boo ad)∧St c i w o []) ?_ ?_
  ·rcases condE d with ⟨p,d⟩ | ⟨p,d⟩
   ·refine CT p<|Wk ?_
    obtain rfl:=oi d
    exact ⟨x,rfl,rfl,S⟩
   refine CF p<|Wg<|Le<|A<|We ?_
   obtain rfl:=oi d
   exact ⟨x,rfl,rfl,S⟩
  rintro f w ⟨o,ae,ab,S⟩
  rcases condE b with ⟨t,b⟩ | ⟨t,b⟩
  ·refine WP.condT ab t<|Ws<|Wg<|M' ae ?_
   refine WL.w (v:=Tryz.vvariants_domain (.words u:Gvariants_domain)) (R.ofEq (R.mkIface rfl Tryz.underlying175 (by intro _ h; cases h)) rfl)<|A<|We ?_
   obtain rfl:=oi b
   obtain rfl:=oi h
   refine WP.ret (Out.one rfl S rfl ?_)
   exact rfl
  refine WP.condF ab t<|Wk ?_
  obtain rfl:=oi b
  exact ⟨o,S⟩
 intro f w hM
 rcases z with _ | e
 ·obtain ⟨H6,S⟩:=hM
  refine Ws<|Wg ?_
  refine WL.w (R.build [] [] bp176 zSa rfl rfl) ?_
  refine WL.w (v:=Tryz.vvariants_domain (.texts:Gvariants_domain)) (R.ofEq (R.mkIface rfl Tryz.underlying176 (by intro _ h; cases h)) rfl)<|A<|We ?_
  obtain rfl:=oi h
  refine WP.ret (Out.one rfl S rfl ?_)
  exact rfl
 exact hM.elim
theorem zGm {b:World} {c:Hp} (hw:Holds b c) (d:Str) (f:Str) {r:Int} (h:zAt d f=some r) :
  Ci Tryz.prog 302 [(str d),(str f)] b c r :=
 zQs Tryz.func302 rfl kr hw h Tryz.stringslite_Index_one
end Go.Proofs
namespace Go.Proofs
open Go Go.Eng Go.VI Go.Eng.Pure
set_option linter.unusedVariables false
set_option maxRecDepth 10000
set_option maxHeartbeats 4000000
theorem c302:FE.ok (U:=UU) Tryz.prog ⟨302,[.str,.str],[.int],fun x=>zAt x.1 x.2⟩:=@fun w H az x y hw hg i hT h=>by
 obtain ⟨b,_,rfl,c,⟨d,rfl,f⟩⟩:=hT
 obtain rfl:b=_:=c
 obtain rfl:d=_:=f
 exact (zGm hw x.1 x.2 h).mono (fun _ _ e=>⟨[_],e,_,rfl,rfl⟩)
theorem c257:FE.ok (U:=UU) Tryz.prog ⟨257,[.str,.str],[.str,.str,.boo],fun x=>zEO x.1 x.2⟩:=mk (fcons c302 anil) (.e) Tryz.func257
theorem c179:FE.ok (U:=UU) Tryz.prog ⟨179,[.str,.str],[.str,.str,.boo],fun x=>zBM x.1 x.2⟩:=mk (fcons c257 anil) (.e) Tryz.func179
theorem c237:FE.ok (U:=UU) Tryz.prog ⟨237,[.str],[.str,.str,.boo],fun x=>zHb x⟩:=mk (fcons c216 (fcons c179 (fcons c25 (fcons c24 anil)))) (.n .e (.n .e (.n .e (.n (.n .e (.j ⟨[⟨.sl 6,.str,none⟩,⟨.sl 7,.boo,none⟩],some [],[]⟩ false .e)) .e)))) Tryz.func237
theorem c236:FE.ok (U:=UU) Tryz.prog ⟨236,[.str],[(.sl .str)],fun x=>zHl x⟩:=mk anil (.n .e (.n .e (.n .e (.n (.n .e (.lp ⟨[⟨.sl 3,(.sl .str),some 9⟩,⟨.sl 4,.boo,none⟩,⟨.sl 5,.int,none⟩,⟨.sl 6,.int,none⟩],some [],[]⟩ (some ⟨[⟨.sl 3,(.sl .str),some 9⟩,⟨.sl 5,.int,none⟩],some [],[]⟩) false .e)) .e)))) Tryz.func236
theorem c163:FE.ok (U:=UU) Tryz.prog ⟨163,[.str],[.str,(.sl (.st 270)),.boo],fun x=>zEJ x⟩:=mk (fcons c237 (fcons c236 (fcons c174 anil))) (.n .e (.n .e (.n .e (.n .e (.n .e (.n (.n .e (.lp ⟨[⟨.sl 7,(.sl (.st 270)),some 270⟩,⟨.sl 24,.int,none⟩],some [],[]⟩ (some ⟨[⟨.sl 7,(.sl (.st 270)),some 270⟩],some [],[]⟩) true .e)) .e)))))) Tryz.func163
theorem c239:FE.ok (U:=UU) Tryz.prog ⟨239,[.str],[(.st 338),.boo],fun x=>zAo x⟩:=mk (fcons c179 (fcons c163 (fcons c25 (fcons c24 anil)))) (.e) Tryz.func239
theorem c244:FE.ok (U:=UU) Tryz.prog ⟨244,[.str],[(.st 338),.boo],fun x=>zBm x⟩:=mk (fcons c239 anil) (.e) Tryz.func244
theorem zHO {b:World} {d:Hp} (hw:Holds b d) (hG:Tryz.Gl b) (c:Str) {r:(GMediaType×Bool)} (h:zBm c=some r) :
  Con Tryz.prog 244 [(str c)] b d (fun H' v=>∃ f:Value,v=(.tuple ⟨[(agg [(str r.1.fType),(str r.1.fSub),f]),(boo r.2)]⟩)∧Sl H' f r.1.fParams):=by
 refine (c244 (xs:=(c)) (y:=r) hw (fun _ _ e=>by cases e) hG ⟨_,rfl,rfl⟩ h).mono ?_
 rintro _ v ⟨_,rfl,D⟩
 obtain ⟨k,_,rfl,K0,⟨i,rfl,j⟩⟩:=D
 obtain ⟨_,rfl,⟨_,rfl,K0_0⟩⟩:=K0
 obtain rfl:i=_:=j
 exact ⟨_,rfl,K0_0⟩
end Go.Proofs
namespace Go.Proofs
open Go.Eng Go.Eng.Pure
set_option linter.unusedVariables false
theorem zRQ:zer Tryz.prog 338=some [(str []),(str []),(.slice none 0 0)]:=by kernel_rfl
theorem zM0:lay Tryz.prog 338=some (true,3):=by kernel_rfl
instance:Lay Tryz.prog 338 (true,3):=⟨zM0⟩
theorem zQf:fld Tryz.prog 338 2=some 2:=by kernel_rfl
instance:Fld Tryz.prog 338 2 2:=⟨zQf⟩
theorem zRP:lay Tryz.prog 266=some (false,1):=by kernel_rfl
instance:Lay Tryz.prog 266 (false,1):=⟨zRP⟩
theorem el266:Elem Tryz.prog 266 270 2:=zEu kr
theorem zJ6:lay Tryz.prog 270=some (true,2):=by kernel_rfl
instance:Lay Tryz.prog 270 (true,2):=⟨zJ6⟩
theorem zRL:zer Tryz.prog 270=some [(str []),(str [])]:=by kernel_rfl
theorem zNU:fld Tryz.prog 270 0=some 0:=by kernel_rfl
instance:Fld Tryz.prog 270 0 0:=⟨zNU⟩
theorem zCJ {i:World} {c:Hp} (hw:Holds i c) (hG:Tryz.Gl i) (j:(List GParam)) (o:(GParam→Option Bool)) {k:Value} {kp_f:FuncId} {cp_f:List Value} (d:Sl c k j) (Fp_f:∀ {w:World} {H:Hp},c.le H→Holds w H→Tryz.Gl w→∀ (p:GParam) (rr:Bool),o p=some rr→Con Tryz.prog kp_f ([(agg [(str p.fName),(str p.fValue)])]++cp_f) w H (fun H' v=>v=(boo rr))) {r:Int} (h:zAP j o=some r) :
  Ci Tryz.prog 164 [k,(.func (.func kp_f) #[] cp_f.toArray)] i c r:=by
 refine CM 19 Tryz.func164 hw fun S=>?_
 refine Ws<|Wg<|A<|We<|Ws<|Ws<|Wg<|M<|Nq d<|M<|We<|B h fun t ai h=>WP.cut (fun f w=>match t with | .inl _=>∃ (H7:Hp),St i c w H7 [] | .inr _=>False) ?_ ?_
 ·refine Wb ?_
  refine WP.loopM (zAF j o) (fun s f w=>match s with | ac=>∃ (l:Hp),f 0=k∧f 1=(.func (.func kp_f) #[] cp_f.toArray)∧f 7=(int (j.length:Int))∧f 8=(int ac)∧Sl l k j∧St i c w l []) 0 t ai ?_ ?_
  ·exact ⟨c,rfl,rfl,rfl,rfl,d,S⟩
  intro ac f w hI y8 b ad
  obtain ⟨l,h2,h3,h4,u,d,S⟩:=hI
  refine Ws<|Wg<|La' u h4<|We<|Ws ?_
  rcases condE b with ⟨x,b⟩ | ⟨x,b⟩
  ·refine CT x<|Wk<|Ws<|Wb<|Ws<|Wg<|M' u<|A<|We<|Ws<|Wg<|M' h3 ?_
   refine M' h2<|M<|B b fun z aj b=>W.idx (α:=GParam) d rfl rfl el266 aj ?_
   rintro ap _ ak rfl
   refine WL.w (R.loadHN (vs:=[(str z.fName),(str z.fValue)]) S rfl ak zJ6 rfl rfl)<|B b fun aq al b=>W.callv S rfl rfl (Fp_f (S.post.le) S.holds (hG.post S.post) z _ al) ?_
   rintro au av am an S rfl
   have d:=d.up an
   refine We ?_
   rcases condE b with ⟨aa,b⟩ | ⟨aa,b⟩
   ·refine CT aa<|Ws<|Wg<|M<|A<|We ?_
    obtain rfl:=oi b
    obtain rfl:=ad
    exact WP.ret (Ri h S)
   refine CF aa<|Wk<|Wg<|Lg' u rfl<|M<|We ?_
   obtain rfl:=oi b
   exact ⟨rfl,⟨am,h2,h3,h4,rfl,d,S⟩⟩
  refine CF x<|Wx ?_
  obtain rfl:=oi b
  obtain rfl:=ad
  exact ⟨l,S⟩
 intro f w hM
 rcases t with _ | e
 ·obtain ⟨H7,S⟩:=hM
  refine Ws<|Wg<|A<|We ?_
  exact WP.ret (Ri h S)
 exact hM.elim
theorem zB1 {c:World} {b:Hp} (hw:Holds c b) (hG:Tryz.Gl c) (d:(List GParam)) (f:(GParam→Option Bool)) {j:Value} {kp_f:FuncId} {cp_f:List Value} (k:Sl b j d) (Fp_f:∀ {w:World} {H:Hp},b.le H→Holds w H→Tryz.Gl w→∀ (i:GParam) (rr:Bool),f i=some rr→Con Tryz.prog kp_f ([(agg [(str i.fName),(str i.fValue)])]++cp_f) w H (fun H' v=>v=(boo rr))) {r:Bool} (h:zAR d f=some r) :
  Cb Tryz.prog 372 [j,(.func (.func kp_f) #[] cp_f.toArray)] c b r:=by
 refine CM 9 Tryz.func372 hw fun S=>?_
 refine Ws<|Wg<|A<|We<|Ws<|Wg<|M<|M<|B h fun o l h=>W.call S rfl (zCJ S.holds (hG.post S.post) d f k (fun hle=>Fp_f (Hp.le.trans S.post.le hle)) l) ?_
 rintro p t u x S rfl
 refine Ld<|A<|We ?_
 exact WP.ret (Rb h S)
theorem zFA {c:World} {d:Hp} (hw:Holds c d) (hG:Tryz.Gl c) (b:GParam) (f:GParam) {i:Addr} (j:At d i [(str f.fName),(str f.fValue)]) {r:Bool} (h:zBb b f=some r) :
  Cb Tryz.prog 373 [(agg [(str b.fName),(str b.fValue)]),(.pointer (some i))] c d r:=by
 refine CM 9 Tryz.func373 hw fun S=>?_
 refine Ws<|Wg ?_
 refine W.box [(str b.fName),(str b.fValue)] S rfl rfl ?_
 intro l o S
 refine A<|We<|Ws<|Wg<|Fb ?_
 refine Lo 0 S<|Fc ?_
 have k:=At.add j 0 (by simp)
 refine Lq S k<|Na<|A<|We ?_
 exact WP.ret (Rb h S)
theorem zFt {t:World} {x:Hp} (hw:Holds t x) (hG:Tryz.Gl t) (av:Unit) (z:Str) {r:(Str×Bool)} (h:zBt av z=some r) :
  Con Tryz.prog 371 [(agg []),(str z)] t x (fun H' v=>v=(.tuple ⟨[(str r.1),(boo r.2)]⟩)):=by
 refine CM 42 Tryz.func371 hw fun S=>?_
 refine Ws<|Wg ?_
 refine W.box [] S rfl rfl ?_
 intro b1 w2 S
 refine A<|A<|We<|Ws<|Wg<|M<|B h fun c aw h=>W.call S rfl (zHO S.holds (hG.post S.post) z aw) ?_
 rintro v4 w5 H6 bn S ⟨u,rfl,d⟩
 refine M ?_
 refine Ex ?_
 refine Ex ?_
 refine W.alloc [(str []),(str []),(.slice none 0 0)] S zRQ ?_
 intro ab bo S
 refine W.store (i:=0) [(str c.1.fType),(str c.1.fSub),u] S rfl rfl rfl zM0 rfl (AllOne.all (l:=[(str c.1.fType),(str c.1.fSub),u]) (.cons rfl (.cons rfl (.cons (Sl.oneC d) .nil)))) (Nat.le_of_ble_eq_true kr) rfl ?_
 intro bp S
 refine A<|We<|Ws<|Ws<|Wg<|Fb ?_
 refine Lo 0 S<|Nq d<|M<|We<|B h fun ai ay h=>WP.cut (fun f w=>∃ (aj:Hp),f 1=(str z)∧f 7=(boo ai)∧St t x w aj []) ?_ ?_
 ·refine Wb ?_
  refine WP.loopM (zAx c) (fun s f w=>match s with | (aa,ak)=>∃ (ac:Hp),f 1=(str z)∧f 6=(ptr ab 0)∧f 7=(boo aa)∧f 16=u∧f 17=(int (c.1.fParams.length:Int))∧f 18=(int ak)∧Sl ac u c.1.fParams∧St t x w ac [.box ab 338 [(str c.1.fType),(str c.1.fSub),u]]) (c.2,0) ai ay ?_ ?_
  ·exact ⟨H6,rfl,rfl,rfl,rfl,rfl,rfl,d,(S.pk [0])⟩
  intro s f w hI bq p az
  obtain ⟨aa,ak⟩:=s
  obtain ⟨ac,al,am,an,ao,ap,ad,d,S⟩:=hI
  refine Ws<|Wg<|La' ad ap<|We<|Ws ?_
  rcases condE p with ⟨af,p⟩ | ⟨af,p⟩
  ·refine CT af<|Wk<|Ws<|Wb<|Ws<|Wg<|M' ad<|B p fun k a0 p=>W.idx (α:=GParam) d ao ad el266 a0 ?_
   rintro br _ a1 rfl
   refine WL.w (R.loadHN (vs:=[(str k.fName),(str k.fValue)]) S rfl a1 zJ6 rfl rfl) ?_
   refine W.alloc [(str []),(str [])] S zRL ?_
   intro aq bs S
   refine A ?_
   refine W.store (i:=0) [(str k.fName),(str k.fValue)] S rfl rfl rfl zJ6 rfl rfl (Nat.le_of_ble_eq_true kr) rfl ?_
   intro bt S
   refine We<|Wg<|M' an<|M ?_
   refine WL.grp 4 [25,26,27] 28 (boo (aa&&(k.fName !=[113]))) ?_ ?_
   ·rcases boolE aa with j | j
    ·refine Gy j<|Fb<|Gy j ?_
     refine Lo 0 S<|Gy j<|Nb<|Pt j ?_
     exact We ⟨(andT j),ag,rfl⟩
    refine Gn j<|Gn j<|Gn j<|Pf j ?_
    exact We ⟨(andF j),ag,rfl⟩
   intro us
   refine M ?_
   obtain ⟨ae,a2,a3,_,S⟩:=S.settle (i:=0) rfl
   replace S:St t x _ ae [.box ab 338 [(str c.1.fType),(str c.1.fSub),u]]:=S
   have a4:At ae ⟨aq,0,none⟩ [(str k.fName),(str k.fValue)]:=⟨_,_,rfl,a3,[],by simp⟩
   have d:=d.up a2
   refine B p fun a5 o p=>WL.grpw 8 [30,31,32,33,34,35,36] 37 (boo a5) (fun w=>∃ H':Hp,ae.le H'∧St t x w H' [.box ab 338 [(str c.1.fType),(str c.1.fSub),u]]) ?_ ?_
   ·rcases boolE (aa&&(k.fName !=[113])) with b | b
    ·replace o:=condT o b
     refine Gy b<|Fb' am<|Gy b ?_
     refine Lo 0 S<|Gy b<|M<|Gy b<|B o fun a6 a7 o=>W.subHi (α:=GParam) d rfl rfl el266 a7 ?_
     intro bu a8
     refine Gy b ?_
     refine WL.w (R.mkFunc (vs:=[(.pointer (some ⟨aq,0,none⟩))]) rfl)<|Gy b<|B o fun bv a9 o=>W.call S rfl (zB1 S.holds (hG.post S.post) a6 (fun x0=>zBb x0 k) a8 (fun hle hw hG x0 r h=>zFA hw hG x0 k (At.mono a4 hle (by simp)) h) a9) ?_
     rintro bw bx ba au S rfl
     have d:=d.up au
     refine Gy b<|No<|Pt b ?_
     exact We ⟨(ob o),ag,⟨ba,au,S⟩⟩
    replace o:=condF o b
    refine Gn b<|Gn b<|Gn b<|Gn b<|Gn b<|Gn b<|Gn b<|Pf b ?_
    exact We ⟨(ob o),ag,⟨ae,lr,S⟩⟩
   intro us bz ⟨bb,bc,S⟩
   have d:=d.up bc
   refine A<|We<|Wg<|Lg' ad rfl<|M<|We ?_
   obtain rfl:=oi p
   exact ⟨rfl,⟨bb,al,am,rfl,ao,ap,rfl,d,S⟩⟩
  refine CF af<|Wx ?_
  obtain rfl:=oi p
  obtain rfl:=az
  exact ⟨ac,al,an,(S.pk [])⟩
 rintro f w ⟨aj,bd,be,S⟩
 refine Ws<|Wg<|M' bd<|B h fun b0 bf h=>W.call S rfl (zA7 S.holds (hG.post S.post) z bf) ?_
 rintro b2 b3 b4 b5 S rfl
 refine M' be<|A<|A<|We ?_
 obtain rfl:=oi h
 refine WP.ret (Out.two rfl S rfl rfl ?_)
 exact rfl
theorem zHe {t:World} {v:Hp} (hw:Holds t v) (hG:Tryz.Gl t) (p:Str) (j:Bool) {r:Bool} (h:zCD p j=some r) :
  Cb Tryz.prog 321 [(str p),(boo j)] t v r:=by
 refine CM 41 Tryz.func321 hw fun S=>?_
 refine Ws<|Wg<|A<|We<|Ws<|Ws<|Wg<|M<|B h fun u ao h=>W.call S rfl (zA7 S.holds (hG.post S.post) p ao) ?_
 rintro v2 w3 H4 ay S rfl
 refine W.bytes (s:=u) S rfl Tryz.underlying9 Tryz.underlying67 Tryz.underlying5 ?_
 intro b6 c7 w8 a0 S
 refine Nv<|M<|We<|B h fun z au h=>WP.cut (fun f w=>match z with | .inl _=>∃ (ae:Hp),f 0=(str p)∧St t v w ae [] | .inr _=>False) ?_ ?_
 ·refine Wb ?_
  refine WP.loopM (zBd j u) (fun s f w=>match s with | af=>∃ (x:Hp),f 0=(str p)∧f 1=(boo j)∧f 9=(.slice (some ⟨b6,0,none⟩) u.length c7)∧f 10=(int (u.length:Int))∧f 11=(int af)∧St t v w x [.box b6 5 (u.map byt)]) 0 z au ?_ ?_
  ·exact ⟨H4,rfl,rfl,rfl,rfl,rfl,S⟩
  intro af f w hI a1 c ah
  obtain ⟨x,ai,aj,ak,al,aa,S⟩:=hI
  refine Ws<|Wg<|La' aa al<|We<|Ws ?_
  rcases condE c with ⟨ab,c⟩ | ⟨ab,c⟩
  ·refine CT ab<|Wk<|Ws<|Wb<|Ws<|Wg<|B c fun c24 am c=>?_
   have a2:=(zCI am).2
   refine WL.w (R.idxB ak aa el67 (zCI am).2)<|B c fun c26 av c=>?_
   refine WL.w (R.loadB (i:=0) S rfl rfl lay5 (zCI av).1)<|A<|We<|Ws<|Wg<|M<|Ma c26 97<|M ?_
   refine WL.grp 3 [18,19] 20 (boo ((decide (c26<97))||(decide (122<c26)))) ?_ ?_
   ·rcases boolE (decide (c26<97)) with k | k
    ·refine Gn k<|Gn k<|Pt k ?_
     exact We ⟨(orT k),ag,rfl⟩
    refine Gy k<|M<|Gy k<|Mc c26 122<|Pf k ?_
    exact We ⟨(orF k),ag,rfl⟩
   intro us
   refine M ?_
   refine WL.grp 11 [22,23,24,25,26,27,28,29,30,31] 32 (boo (((decide (c26<97))||(decide (122<c26)))&&(((!j)||(decide (c26<48)))||(decide (57<c26))))) ?_ ?_
   ·rcases boolE ((decide (c26<97))||(decide (122<c26))) with b | b
    ·refine Gy b<|M' aj<|Gy b<|No<|Gy b<|M ?_
     refine WL.grp 3 [25,26] 27 (boo ((!j)||(decide (c26<48)))) ?_ ?_
     ·rcases boolE (!j) with l | l
      ·refine Gn l<|Gn l<|Gy b<|Pt l ?_
       exact We ⟨(orT l),ag,rfl⟩
      refine Gy l<|M<|Gy l<|Ma c26 48<|Gy b<|Pf l ?_
      exact We ⟨(orF l),ag,rfl⟩
     intro us
     refine Gy b<|M ?_
     refine WL.grp 3 [29,30] 31 (boo (((!j)||(decide (c26<48)))||(decide (57<c26)))) ?_ ?_
     ·rcases boolE ((!j)||(decide (c26<48))) with o | o
      ·refine Gn o<|Gn o<|Gy b<|Pt o ?_
       exact We ⟨(orT o),ag,rfl⟩
      refine Gy o<|M<|Gy o<|Mc c26 57<|Gy b<|Pf o ?_
      exact We ⟨(orF o),ag,rfl⟩
     intro us
     refine Pt b ?_
     exact We ⟨(andT b),ag,rfl⟩
    refine Gn b<|Gn b<|Gn b<|WL.gund rfl rfl<|WL.gund rfl rfl<|Gn b<|Gn b<|WL.gund rfl rfl<|WL.gund rfl rfl<|Gn b<|Pf b ?_
    exact We ⟨(andF b),ag,rfl⟩
   intro us
   refine We ?_
   rcases condE c with ⟨ac,c⟩ | ⟨ac,c⟩
   ·refine CT ac<|Ws<|Wg<|A<|We ?_
    obtain rfl:=oi c
    obtain rfl:=ah
    exact WP.ret (Rb h S)
   refine CF ac<|Wk<|Wg<|Lg' aa rfl<|M<|We ?_
   obtain rfl:=oi c
   exact ⟨rfl,⟨x,ai,aj,ak,al,rfl,S⟩⟩
  refine CF ab<|Wx ?_
  obtain rfl:=oi c
  obtain rfl:=ah
  exact ⟨x,ai,(S.pk [])⟩
 intro f w hM
 rcases z with _ | e
 ·obtain ⟨ae,an,S⟩:=hM
  refine Ws<|Wg<|M' an<|Nb<|M ?_
  refine WL.grp 4 [37,38,39] 40 (boo ((p !=[])&&(decide ((p.length:Int)≤8)))) ?_ ?_
  ·rcases boolE (p !=[]) with d | d
   ·refine Gy d<|M' an<|Gy d<|Ns<|Gy d<|Lb<|Pt d ?_
    exact We ⟨(andT d),ag,rfl⟩
   refine Gn d<|Gn d<|Gn d<|Pf d ?_
   exact We ⟨(andF d),ag,rfl⟩
  intro us
  refine A<|We ?_
  exact WP.ret (Rb h S)
 exact hM.elim
end Go.Proofs
namespace Go.Proofs
open Go Go.Eng Go.VI Go.Eng.Pure
set_option linter.unusedVariables false
set_option maxRecDepth 10000
set_option maxHeartbeats 4000000
theorem c321:FE.ok (U:=UU) Tryz.prog ⟨321,[.str,.boo],[.boo],fun x=>zCD x.1 x.2⟩:=@fun w H az x y hw hg b hT h=>by
 obtain ⟨c,_,rfl,d,⟨f,rfl,i⟩⟩:=hT
 obtain rfl:c=_:=d
 obtain rfl:f=_:=i
 exact (zHe hw b x.1 x.2 h).mono (fun _ _ e=>⟨[_],e,_,rfl,rfl⟩)
theorem c275:FE.ok (U:=UU) Tryz.prog ⟨275,[.str,.str],[.int],fun x=>zCN x.1 x.2⟩:=mk (fcons c302 anil) (.e) Tryz.func275
theorem zD2 {b:World} {f:Hp} (hw:Holds b f) (hG:Tryz.Gl b) (c:Str) (d:Str) {r:Int} (h:zCN c d=some r) :
  Ci Tryz.prog 275 [(str c),(str d)] b f r:=by
 refine (c275 (xs:=(c,d)) (y:=r) hw (fun _ _ e=>by cases e) hG ⟨_,_,rfl,rfl,⟨_,rfl,rfl⟩⟩ h).mono ?_
 rintro _ v ⟨_,rfl,D⟩
 obtain ⟨i,rfl,j⟩:=D
 obtain rfl:i=_:=j
 exact rfl
end Go.Proofs
namespace Go.Proofs
open Go.Eng Go.Eng.Pure
set_option linter.unusedVariables false
theorem zFo {i:World} {j:Hp} (hw:Holds i j) (hG:Tryz.Gl i) (k:Str) (d:Str) {r:Int} (h:zBw k d=some r) :
  Ci Tryz.prog 289 [(str k),(str d)] i j r:=by
 refine CM 34 Tryz.func289 hw fun S=>?_
 refine Ws<|Wg<|A<|We<|Ws<|Ws<|Wg<|M<|Ns<|Le<|We ?_
 rcases condE h with ⟨l,h⟩ | ⟨l,h⟩
 ·refine CT l<|Ws<|Wg<|M ?_
  cases h
 refine CF l<|Wk<|Ws<|Ws<|Wg<|M<|Ns<|Le<|We ?_
 rcases condE h with ⟨o,h⟩ | ⟨o,h⟩
 ·refine CT o<|Ws<|Wg<|M<|M<|B h fun c3 ac h=>Ja ac<|W.countString (s:=k) (c:=c3) Tryz.func323 rfl rfl kr kr rfl rfl<|A<|We ?_
  exact WP.ret (Ri h S)
 refine CF o<|Wk<|Ws<|Wg<|A<|We<|B h fun ad ae h=>WP.cut (fun _ _=>False) ?_ (fun _ _ h=>h.elim)
 refine Wb ?_
 refine WP.loopM (zFk d) (fun s f w=>match s with | (p,v)=>∃ (x:Hp),f 0=(str p)∧f 1=(str d)∧f 5=(int v)∧St i j w x []) (k,0) ad ae ?_ ?_
 ·exact ⟨j,rfl,rfl,rfl,S⟩
 intro s f w hI ak b af
 obtain ⟨p,v⟩:=s
 obtain ⟨x,z,t,h9,S⟩:=hI
 refine Wb<|Ws<|Wg<|M' z<|M' t<|B b fun al ah b=>W.call S rfl (zD2 S.holds (hG.post S.post) p d ah) ?_
 rintro am an ai ao S rfl
 refine A<|We<|Ws<|Ws<|Wg<|M<|Le<|We ?_
 rcases condE b with ⟨u,b⟩ | ⟨u,b⟩
 ·refine CT u<|Ws<|Wg<|M' h9<|A<|We ?_
  obtain rfl:=oi b
  obtain rfl:=af
  exact WP.ret (Ri h S)
 refine CF u<|Wk<|Ws<|Wg<|M' h9<|Lg<|A<|We<|Wg<|M' z<|M<|M' t ?_
 refine Ns<|Lg<|B b fun ap aj b=>Jc aj<|A<|We ?_
 obtain rfl:=oi b
 exact ⟨rfl,⟨ai,rfl,t,rfl,S⟩⟩
theorem zG3 {j:World} {k:Hp} (hw:Holds j k) (hG:Tryz.Gl j) (c:Str) (l:Str) (t:Int) (a1:Int) {r:(List Str)} (h:zCk c l t a1=some r) :
  Con Tryz.prog 338 [(str c),(str l),(int t),(int a1)] j k (fun H' v=>Sl H' v r):=by
 refine CM 66 Tryz.func338 hw fun S=>?_
 refine Ws<|Wg<|A<|We<|Ws<|Ws<|Wg<|M<|Le<|We ?_
 rcases condE h with ⟨aj,h⟩ | ⟨aj,h⟩
 ·refine CT aj<|Ws<|Wg<|A<|We ?_
  exact WP.ret (Rl h S Sl.nil)
 refine CF aj<|Wk<|Ws<|Ws<|Wg<|M<|Na<|We ?_
 rcases condE h with ⟨ak,h⟩ | ⟨ak,h⟩
 ·refine CT ak<|Ws<|Wg<|M<|M ?_
  cases h
 refine CF ak<|Wk<|Ws<|Ws<|Wg<|M<|La<|We<|B h fun ac o h=>WP.cut (fun f w=>∃ (H3:Hp),f 0=(str c)∧f 1=(str l)∧f 2=(int t)∧f 3=(int ac)∧St j k w H3 []) ?_ ?_
 ·rcases condE o with ⟨am,o⟩ | ⟨am,o⟩
  ·refine CT am<|Wg<|M<|M<|B o fun cc bd o=>W.call S rfl (zFo S.holds (hG.post S.post) c l bd) ?_
   rintro cd ce be cf S rfl
   refine Lg<|A<|We ?_
   obtain rfl:=oi o
   exact ⟨be,rfl,rfl,rfl,rfl,S⟩
  refine CF am<|Wk ?_
  obtain rfl:=oi o
  exact ⟨k,rfl,rfl,rfl,rfl,S⟩
 rintro f w ⟨H3,h4,h5,h6,h8,S⟩
 refine Ws<|Wg<|M' h8<|M' h4<|Ns<|Lg<|Ni<|A<|We<|Ws<|Wg<|M<|B h fun bi bj h=>W.makeSlice (α:=Str) (zv:=(str [])) (z:=[]) S el36 rfl rfl rfl zer9 rfl bj ?_
 intro p cg bn d bo bp S
 refine A<|We<|Ws<|Wg<|M<|Lh<|A<|We<|Ws<|Wg<|A<|We ?_
 refine Ws<|B h fun an bq h=>WP.cut (fun f w=>match an with | (a3,ao,ad)=>∃ (ap:Hp) (aq:List Value),f 0=(str a3)∧f 9=(.slice (some ⟨p,0,none⟩) d d)∧f 10=(int ao)∧Ms ap aq ad∧ad.length=d∧St j k w ap [.box p 9 aq]) ?_ ?_
 ·refine Wb ?_
  refine WP.loopM (zAs c l t ac) (fun s f w=>match s with | (au,av,ae)=>∃ (af:Hp) (u:List Value),f 0=(str au)∧f 1=(str l)∧f 2=(int t)∧f 3=(int (wr ((if (wr ((c.length:Int)+1))<ac then (wr ((c.length:Int)+1)) else ac) - 1)))∧f 9=(.slice (some ⟨p,0,none⟩) d d)∧f 10=(int av)∧Ms af u ae∧ae.length=d∧St j k w af [.box p 9 u]) (c,0,bi) an bq ?_ ?_
  ·exact ⟨H3,bn,h4,h5,h6,rfl,rfl,rfl,bp,bo,S⟩
  intro s f w hI ch b a4
  obtain ⟨au,av,ae⟩:=s
  obtain ⟨af,u,x,aw,a5,a6,ah,aa,ab,ai,S⟩:=hI
  refine Ws<|Ws<|Wg<|M' aa<|M' a6<|La<|We ?_
  rcases condE b with ⟨ax,b⟩ | ⟨ax,b⟩
  ·refine CT ax<|Wk<|Wb<|Ws<|Wg<|M' x<|M' aw<|B b fun ci br b=>W.call S rfl (zD2 S.holds (hG.post S.post) au l br) ?_
   rintro cj ck a7 bs S rfl
   have ab:=Ms.mono ab bs
   refine A<|We<|Ws<|Ws<|Wg<|M<|La<|We ?_
   rcases condE b with ⟨ay,b⟩ | ⟨ay,b⟩
   ·refine CT ay<|Wx ?_
    obtain rfl:=oi b
    obtain rfl:=a4
    exact ⟨a7,u,x,ah,aa,ab,ai,S⟩
   refine CF ay<|Wk<|Ws<|Wg<|M' ah<|M' aa<|M' x<|M<|M' a5<|Lg<|B b fun cl bt b=>Jd bt<|B b fun cm bu b=>?_
   refine WL.w (R.idxM (α:=Str) (xs:=ae) rfl ai rfl el36 bu)<|B b fun cn a8 b=>?_
   refine W.storeM (α:=Str) (i:=0) (m:=av) S ab rfl rfl rfl lay9 rfl rfl a8 ?_
   intro co bv bw S
   have bx:=(zEp a8).1.trans ai
   refine We<|Ws<|Wg<|M' x<|M<|M' aw<|Ns<|Lg<|B b fun cp bz b=>Jc bz<|A<|We<|Wg<|M' aa<|Lg<|A<|We ?_
   obtain rfl:=oi b
   exact ⟨rfl,⟨a7,bv,rfl,aw,a5,a6,ah,rfl,bw,bx,S⟩⟩
  refine CF ax<|Wx ?_
  obtain rfl:=oi b
  obtain rfl:=a4
  exact ⟨af,u,x,ah,aa,ab,ai,S⟩
 intro f w hM
 obtain ⟨a3,ao,ad⟩:=an
 obtain ⟨ap,aq,b0,a9,ba,b1,bb,S⟩:=hM
 refine Ws<|Wg<|M' a9<|M' ba<|M' b0<|B h fun cq b2 h=>?_
 refine WL.w (R.idxM (α:=Str) (xs:=ad) rfl bb rfl el36 b2)<|B h fun b3 bc h=>?_
 refine W.storeM (α:=Str) (i:=0) (m:=ao) S b1 rfl rfl rfl lay9 rfl rfl bc ?_
 intro cr b4 az S
 have b5:=(zEp bc).1.trans bb
 refine We<|Ws<|Wg<|M' a9<|M' ba<|Lg ?_
 obtain ⟨a0,b6,b7,_,S⟩:=S.settle (i:=0) rfl
 replace S:St j k _ a0 []:=S
 have b8:At a0 ⟨p,0,none⟩ b4:=⟨_,_,rfl,b7,[],by simp⟩
 have az:=Ms.mono az b6
 have b9:Sl a0 (.slice (some ⟨p,0,none⟩) d d) b3:=Ms.sl az b5 b8
 refine B h fun cs ca h=>W.subHi (α:=Str) b9 rfl rfl el36 ca ?_
 intro ct cb
 refine A<|We ?_
 exact WP.ret (Rl h S cb)
end Go.Proofs
namespace Go.Proofs
open Go Go.Eng Go.VI Go.Eng.Pure
set_option linter.unusedVariables false
set_option maxRecDepth 10000
set_option maxHeartbeats 4000000
theorem c338:FE.ok (U:=UU) Tryz.prog ⟨338,[.str,.str,.int,.int],[(.sl .str)],fun x=>zCk x.1 x.2.1 x.2.2.1 x.2.2.2⟩:=@fun w H az x y hw hg b hT h=>by
 obtain ⟨c,_,rfl,d,⟨f,_,rfl,i,⟨j,_,rfl,k,⟨l,rfl,o⟩⟩⟩⟩:=hT
 obtain rfl:c=_:=d
 obtain rfl:f=_:=i
 obtain rfl:j=_:=k
 obtain rfl:l=_:=o
 exact (zG3 hw b x.1 x.2.1 x.2.2.1 x.2.2.2 h).mono (fun _ v K0=>⟨[v],rfl,v,rfl,K0⟩)
theorem c320:FE.ok (U:=UU) Tryz.prog ⟨320,[.str,.str],[(.sl .str)],fun x=>zED x.1 x.2⟩:=mk (fcons c338 anil) (.e) Tryz.func320
theorem c287:FE.ok (U:=UU) Tryz.prog ⟨287,[.str],[.boo],fun x=>zCH x⟩:=mk (fcons c321 (fcons c320 anil)) (.n .e (.n (.n .e (.lp ⟨[⟨.sl 8,.int,none⟩],some [],[]⟩ (some ⟨[],some [],[]⟩) true .e)) .e)) Tryz.func287
theorem zJP {b:World} {d:Hp} (hw:Holds b d) (hG:Tryz.Gl b) (c:Str) {r:Bool} (h:zCH c=some r) :
  Cb Tryz.prog 287 [(str c)] b d r:=by
 refine (c287 (xs:=(c)) (y:=r) hw (fun _ _ e=>by cases e) hG ⟨_,rfl,rfl⟩ h).mono ?_
 rintro _ v ⟨_,rfl,D⟩
 obtain ⟨f,rfl,i⟩:=D
 obtain rfl:f=_:=i
 exact rfl
end Go.Proofs
namespace Go.Proofs
open Go.Eng Go.Eng.Pure
set_option linter.unusedVariables false
theorem zF4 {c:World} {d:Hp} (hw:Holds c d) (hG:Tryz.Gl c) (f:Unit) (b:Str) {r:(Str×Bool)} (h:zB7 f b=some r) :
  Con Tryz.prog 374 [(agg []),(str b)] c d (fun H' v=>v=(.tuple ⟨[(str r.1),(boo r.2)]⟩)):=by
 refine CM 10 Tryz.func374 hw fun S=>?_
 refine Ws<|Wg ?_
 refine W.box [] S rfl rfl ?_
 intro k l S
 refine A<|A<|We<|Ws<|Wg<|M<|B h fun o i h=>W.call S rfl (zA7 S.holds (hG.post S.post) b i) ?_
 rintro p t u x S rfl
 refine M<|B h fun z j h=>W.call S rfl (zJP S.holds (hG.post S.post) b j) ?_
 rintro v9 ab ac ad S rfl
 refine A<|A<|We ?_
 obtain rfl:=oi h
 refine WP.ret (Out.two rfl S rfl rfl ?_)
 exact rfl
end Go.Proofs
namespace Go.Proofs
open Go Go.Eng Go.VI Go.Eng.Pure
set_option linter.unusedVariables false
set_option maxRecDepth 10000
set_option maxHeartbeats 4000000
theorem c242:FE.ok (U:=UU) Tryz.prog ⟨242,[.int,.str],[.str],fun x=>zAq x.1 x.2⟩:=mk (fcons c25 anil) (.n .e (.n .e (.n .e (.n (.n .e (.j ⟨[],some [],[]⟩ true (.n (.n (.n .e (.j ⟨[⟨.sl 11,.boo,none⟩],some [],[]⟩ false .e)) (.n .e (.n (.n .e (.j ⟨[⟨.sl 14,.boo,none⟩],some [],[]⟩ false .e)) .e))) .e))) .e)))) Tryz.func242
theorem c375:FE.ok (U:=UU) Tryz.prog ⟨375,[.int,.str],[.str,.boo],fun x=>zBL x.1 x.2⟩:=mk (fcons c242 (fcons c24 anil)) (.e) Tryz.func375
theorem zFs {b:World} {f:Hp} (hw:Holds b f) (hG:Tryz.Gl b) (c:Int) (d:Str) {r:(Str×Bool)} (h:zBL c d=some r) :
  Con Tryz.prog 375 [(int c),(str d)] b f (fun H' v=>v=(.tuple ⟨[(str r.1),(boo r.2)]⟩)):=by
 refine (c375 (xs:=(c,d)) (y:=r) hw (fun _ _ e=>by cases e) hG ⟨_,_,rfl,rfl,⟨_,rfl,rfl⟩⟩ h).mono ?_
 rintro _ v ⟨_,rfl,D⟩
 obtain ⟨i,_,rfl,j,⟨k,rfl,l⟩⟩:=D
 obtain rfl:i=_:=j
 obtain rfl:k=_:=l
 exact rfl
theorem zHZ {b:World} {d:Hp} (hw:Holds b d) (hG:Tryz.Gl b) (c:Str) {r:Bool} (h:zCS c=some r) :
  Cb Tryz.prog 200 [(str c)] b d r:=by
 refine (c200 (xs:=(c)) (y:=r) hw (fun _ _ e=>by cases e) hG ⟨_,rfl,rfl⟩ h).mono ?_
 rintro _ v ⟨_,rfl,D⟩
 obtain ⟨f,rfl,i⟩:=D
 obtain rfl:f=_:=i
 exact rfl
theorem zKh {b:World} {d:Hp} (hw:Holds b d) (hG:Tryz.Gl b) (c:Str) {r:Str} (h:zB6 c=some r) :
  Cs Tryz.prog 174 [(str c)] b d r:=by
 refine (c174 (xs:=(c)) (y:=r) hw (fun _ _ e=>by cases e) hG ⟨_,rfl,rfl⟩ h).mono ?_
 rintro _ v ⟨_,rfl,D⟩
 obtain ⟨f,rfl,i⟩:=D
 obtain rfl:f=_:=i
 exact rfl
end Go.Proofs
namespace Go.Proofs
open Go.Eng Go.Eng.Pure
set_option linter.unusedVariables false
theorem zFu {l:World} {k:Hp} (hw:Holds l k) (hG:Tryz.Gl l) (u:Unit) (d:Str) {r:(Str×Bool)} (h:zBz u d=some r) :
  Con Tryz.prog 376 [(agg []),(str d)] l k (fun H' v=>v=(.tuple ⟨[(str r.1),(boo r.2)]⟩)):=by
 refine CM 25 Tryz.func376 hw fun S=>?_
 refine Ws<|Wg ?_
 refine W.box [] S rfl rfl ?_
 intro o w2 S
 refine A<|A<|We<|Ws<|Wg<|M<|M<|Ns<|Ld<|M ?_
 refine WL.grp 4 [11,12,13] 14 (boo ((decide (1≤(d.length:Int)))&&(decide ((d.length:Int)≤100)))) ?_ ?_
 ·rcases boolE (decide (1≤(d.length:Int))) with c | c
  ·refine Gy c<|M<|Gy c<|Ns<|Gy c<|Lb<|Pt c ?_
   exact We ⟨(andT c),ag,rfl⟩
  refine Gn c<|Gn c<|Gn c<|Pf c ?_
  exact We ⟨(andF c),ag,rfl⟩
 intro us
 refine M<|B h fun p i h=>WL.grpw 3 [16,17] 18 (boo p) (fun w=>∃ H':Hp,k.le H'∧St l k w H' [.box o 176 []]) ?_ ?_
 ·rcases boolE ((decide (1≤(d.length:Int)))&&(decide ((d.length:Int)≤100))) with f | f
  ·replace i:=condT i f
   refine Gy f<|M<|Gy f<|B i fun r7 x i=>W.call S rfl (zHZ S.holds (hG.post S.post) d x) ?_
   rintro v8 w9 z aa S rfl
   refine Pt f ?_
   exact We ⟨(ob i),ag,⟨z,aa,S⟩⟩
  replace i:=condF i f
  refine Gn f<|Gn f<|Pf f ?_
  exact We ⟨(ob i),ag,⟨k,lr,S⟩⟩
 intro us ak ⟨t,al,S⟩
 refine M<|B h fun ab j h=>WL.grpw 5 [20,21,22,23] 24 (boo ab) (fun w=>∃ H':Hp,t.le H'∧St l k w H' [.box o 176 []]) ?_ ?_
 ·rcases boolE p with b | b
  ·replace j:=condT j b
   refine Gy b<|M<|Gy b<|B j fun am ac j=>W.call S rfl (zKh S.holds (hG.post S.post) d ac) ?_
   rintro an ao ad ae S rfl
   refine Gy b<|M<|Gy b<|Na<|Pt b ?_
   exact We ⟨(ob j),ag,⟨ad,ae,S⟩⟩
  replace j:=condF j b
  refine Gn b<|Gn b<|Gn b<|Gn b<|Pf b ?_
  exact We ⟨(ob j),ag,⟨t,lr,S⟩⟩
 intro us ap ⟨aq,au,S⟩
 refine A<|A<|We ?_
 obtain rfl:=oi h
 refine WP.ret (Out.two rfl S rfl rfl ?_)
 exact rfl
theorem zBy {b:World} {c:Hp} (hw:Holds b c) (hG:Tryz.Gl b) (x:Gvariants_domain) (p0:Str) {r:(Str×Bool)} (h:zBF x p0=some r) :
  ConI Tryz.prog "variantproxy/variants.form" (Tryz.vvariants_domain x) [(str p0)] b c (fun H' v=>v=(.tuple ⟨[(str r.1),(boo r.2)]⟩)):=by
 cases x with
 | media=>exact ConI.mk (fun w=>by kernel_rfl) (zFt hw hG () p0 h)
 | tags=>exact ConI.mk (fun w=>by kernel_rfl) (zF4 hw hG () p0 h)
 | words n=>exact ConI.mk (fun w=>by kernel_rfl) (zFs hw hG n p0 h)
 | texts=>exact ConI.mk (fun w=>by kernel_rfl) (zFu hw hG () p0 h)
theorem zFp {b:World} {i:Hp} (hw:Holds b i) (hG:Tryz.Gl b) (c:Str) (d:Str) (f:Str) {r:Bool} (h:zDE c d f=some r) :
  Cb Tryz.prog 93 [(str c),(str d),(str f)] b i r:=by
 refine CM 29 Tryz.func93 hw fun S=>?_
 refine Ws<|Wg<|A<|We<|Ws<|Wg<|M<|B h fun j k h=>W.call S rfl (zD5 S.holds (hG.post S.post) c k) ?_
 rintro p t u v S rfl
 refine A<|We<|Ws<|Wg<|M<|M<|B h fun x l h=>W.invoke S rfl rfl (zBy S.holds (hG.post S.post) j d l) ?_
 rintro z w8 H9 ac S rfl
 refine M ?_
 refine Ex ?_
 refine Ex<|A<|A<|We<|Ws<|Wg<|M<|M<|B h fun ad o h=>W.invoke S rfl rfl (zBy S.holds (hG.post S.post) j f o) ?_
 rintro ae af ah ai S rfl
 refine M ?_
 refine Ex ?_
 refine Ex<|A<|A<|We<|Ws<|Wg<|M<|M<|Na<|A ?_
 refine We ?_
 exact WP.ret (Rb h S)
theorem zFV {d:World} {b:Hp} (hw:Holds d b) (hG:Tryz.Gl d) (f:Str) (c:GAxis) (k:(List Str)) (i:Int) {l:Value} {j:Value} {o:Addr} {p:Addr} {t:Addr} (x:At b o [(str c.fName),l]) (ai:Sl b l c.fValues) (z:At b p [j]) (aa:Sl b j k) (ab:At b t [(int i)]) {r:Bool} (h:zCb f c k i=some r) :
  Cb Tryz.prog 281 [(str f),(.pointer (some o)),(.pointer (some p)),(.pointer (some t))] d b r:=by
 refine CM 14 Tryz.func281 hw fun S=>?_
 refine Ws<|Wg<|A<|We<|Ws<|WP.quiet S kr kr<|QFc ?_
 have ac:=At.add x 0 (by simp)
 refine QH (str c.fName) ac<|QM ?_
 refine QH j z ?_
 refine QH (int i) ab<|B h fun u ad h=>WQ.idx (α:=Str) aa rfl rfl el36 ad ?_
 rintro a6 _ ae rfl
 refine QH (str u) ae<|B h fun r8 ah h=>WQ.call (v:=boo r8) rfl (fun w H' hq S=>zFp S.holds (hG.post S.post) c.fName f u ah)<|QA<|WQ.nil ?_
 intro w1 H2 am S
 exact WP.ret (Rb h S)
theorem zF3 {t:World} {k:Hp} (hw:Holds t k) (hG:Tryz.Gl t) (ai:(List GAxis)) (ad:(List Str)) {al:Value} {ae:Value} (d:Sl k al ai) (c:Sl k ae ad) {r:((List Str)×Bool)} (h:zEf ai ad=some r) :
  Con Tryz.prog 228 [al,ae] t k (fun H' v=>∃ u1:Value,v=(.tuple ⟨[u1,(boo r.2)]⟩)∧Sl H' u1 r.1):=by
 refine CM 41 Tryz.func228 hw fun S=>?_
 refine Ws<|Wg ?_
 refine W.box [ae] S rfl (congrArg Array.toList (Sl.cellsOne c)) ?_
 intro b1 w2 S
 refine A<|A<|We<|Ws<|Ws<|Wg ?_
 refine Lo 0 S<|Nq c<|M<|Nq d<|Lf<|We ?_
 rcases condE h with ⟨aw,h⟩ | ⟨aw,h⟩
 ·refine CT aw<|Ws<|Wg<|A<|A<|We ?_
  obtain rfl:=oi h
  refine WP.ret (Out.two rfl S rfl rfl ?_)
  exact ⟨_,rfl,Sl.nil⟩
 refine CF aw<|Wk<|Ws<|Wg ?_
 refine Lo 0 S<|Nq c<|B h fun l4 bq h=>W.makeSlice (α:=Str) (zv:=(str [])) (z:=[]) S el36 rfl rfl rfl zer9 rfl bq ?_
 intro u w6 bc n8 br ax S
 refine A<|We<|Ws<|Ws<|Wg<|M<|Nq d<|M<|We ?_
 obtain ⟨ay,bd,bs,_,S⟩:=S.settle (i:=1) rfl
 replace S:St t k _ ay [.box u 9 bc]:=S
 have j:At ay ⟨b1,0,none⟩ [ae]:=⟨_,_,rfl,bs,[],by simp⟩
 have ⟨d,c⟩:=U2 bd d c
 have ax:=Ms.mono ax bd
 refine B h fun az bt h=>WP.cut (fun f w=>match az with | .inl an=>∃ (a0:Hp) (ao:List Value),f 6=(.slice (some ⟨u,0,none⟩) n8 n8)∧Ms a0 ao an∧an.length=n8∧St t k w a0 [.box u 9 ao] | .inr _=>False) ?_ ?_
 ·refine Wb ?_
  refine WP.loopM (zDt ai ad) (fun s f w=>match s with | (x,ap)=>∃ (ab:Hp) (af:List Value),f 3=(.pointer (some ⟨b1,0,none⟩))∧f 6=(.slice (some ⟨u,0,none⟩) n8 n8)∧f 18=al∧f 19=(int (ai.length:Int))∧f 20=(int x)∧At ab ⟨b1,0,none⟩ [ae]∧Sl ab ae ad∧Sl ab al ai∧Ms ab af ap∧ap.length=n8∧St t k w ab [.box u 9 af]) (0,l4) az bt ?_ ?_
  ·exact ⟨ay,bc,rfl,rfl,rfl,rfl,rfl,j,c,d,ax,br,S⟩
  intro s f w hI cj b be
  obtain ⟨x,ap⟩:=s
  obtain ⟨ab,af,bf,a1,bg,bh,aq,j,c,d,o,a2,S⟩:=hI
  refine Ws<|Wg<|La' aq bh<|We<|Ws ?_
  rcases condE b with ⟨a3,b⟩ | ⟨a3,b⟩
  ·refine CT a3<|Wk<|Ws<|Wb<|Ws<|Wg<|M' aq<|B b fun ac bu b=>W.idx (α:=GAxis) d bg aq el22 bu ?_
   rintro ck _ bv ⟨aj,rfl,p⟩
   refine WL.w (R.loadHN (vs:=[(str ac.fName),aj]) S rfl bv lay62 rfl rfl) ?_
   refine W.alloc [(int 0)] S zer3 ?_
   intro a4 cl S
   refine W.alloc [(str []),(.slice none 0 0)] S zer62 ?_
   intro bi cm S
   refine W.store (i:=1) [(int x)] S rfl rfl rfl lay3 rfl rfl (Nat.le_of_ble_eq_true kr) rfl ?_
   intro cn S
   refine W.store (i:=0) [(str ac.fName),aj] S rfl rfl rfl lay62 rfl (AllOne.all (l:=[(str ac.fName),aj]) (.cons rfl (.cons (Sl.oneC p) .nil))) (Nat.le_of_ble_eq_true kr) rfl ?_
   intro co S
   refine We<|Ws<|Wg<|Fb ?_
   refine Lo 0 S ?_
   obtain ⟨bj,a5,bw,_,S⟩:=S.settle (i:=0) rfl
   replace S:St t k _ bj [.box a4 3 [(int x)],.box u 9 af]:=S
   have ah:At bj ⟨bi,0,none⟩ [(str ac.fName),aj]:=⟨_,_,rfl,bw,[],by simp⟩
   have j:=At.mono j a5 (by simp)
   have ⟨c,d,p⟩:=U3 a5 c d p
   have o:=Ms.mono o a5
   obtain ⟨bn,au,bx,_,S⟩:=S.settle (i:=0) rfl
   replace S:St t k _ bn [.box u 9 af]:=S
   have av:At bn ⟨a4,0,none⟩ [(int x)]:=⟨_,_,rfl,bx,[],by simp⟩
   have j:=At.mono j au (by simp)
   have ⟨c,d,p⟩:=U3 au c d p
   have ah:=At.mono ah au (by simp)
   have o:=Ms.mono o au
   refine WL.w (R.mkFunc (vs:=[(.pointer (some ⟨bi,0,none⟩)),(.pointer (some ⟨b1,0,none⟩)),(.pointer (some ⟨a4,0,none⟩))]) (mapC rfl (mapC bf (mapC rfl mapN))))<|B b fun cp bz b=>W.call S rfl (zBa S.holds (hG.post S.post) ac.fValues (fun x0=>zCb x0 ac ad x) p (fun hle hw hG x0 r h=>zFV hw hG x0 ac ad x (At.mono ah hle (by simp)) (p.up hle) (At.mono j hle (by simp)) (c.up hle) (At.mono av hle (by simp)) h) bz) ?_
   rintro cq cr cs ak S rfl
   have j:=At.mono j ak (by simp)
   have ⟨c,d,p⟩:=U3 ak c d p
   have av:=At.mono av ak (by simp)
   have ah:=At.mono ah ak (by simp)
   have o:=Ms.mono o ak
   refine A<|We<|Ws<|Ws<|Wg<|M<|La<|We ?_
   rcases condE b with ⟨a7,b⟩ | ⟨a7,b⟩
   ·refine CT a7<|Ws<|Wg<|A<|A<|We ?_
    obtain rfl:=oi b
    obtain rfl:=be
    obtain rfl:=oi h
    refine WP.ret (Out.two rfl S rfl rfl ?_)
    exact ⟨_,rfl,Sl.nil⟩
   refine CF a7<|Wk<|WP.quietTail 8 S kr kr<|QM' a1 ?_
   refine QH (int x) av<|QFc ?_
   have b0:=At.add ah 1 (by simp)
   refine QH aj b0<|QM<|B b fun b2 b3 b=>WQ.idx (α:=Str) p rfl rfl el36 b3 ?_
   rintro ct _ b4 rfl
   refine QH (str b2) b4<|B b fun cu b6 b=>?_
   refine WQ.val (fun _ _=>(R.idxM (α:=Str) (xs:=ap) rfl a2 rfl el36 b6))<|WQ.nil ?_
   intro cv b7 a8 S
   have j:=At.mono j a8 (by simp)
   have ⟨c,d⟩:=U2 a8 c d
   have o:=Ms.mono o a8
   refine B b fun cw bo b=>?_
   refine W.storeM (α:=Str) (i:=0) (m:=x) S o rfl rfl rfl lay9 rfl rfl bo ?_
   intro cx b8 b9 S
   have ca:=(zEp bo).1.trans a2
   refine We<|Wg<|Lg' aq rfl<|M<|We ?_
   obtain rfl:=oi b
   exact ⟨rfl,⟨b7,b8,bf,a1,bg,bh,rfl,j,c,d,b9,ca,S⟩⟩
  refine CF a3<|Wx ?_
  obtain rfl:=oi b
  obtain rfl:=be
  exact ⟨ab,af,a1,o,a2,S⟩
 intro f w hM
 rcases az with an | e
 ·obtain ⟨a0,ao,cb,a9,cc,S⟩:=hM
  refine Ws<|Wg<|M' cb<|A<|A<|We ?_
  obtain ⟨ba,cd,ce,_,S⟩:=S.settle (i:=0) rfl
  replace S:St t k _ ba []:=S
  have cf:At ba ⟨u,0,none⟩ ao:=⟨_,_,rfl,ce,[],by simp⟩
  have a9:=Ms.mono a9 cd
  have cg:Sl ba (.slice (some ⟨u,0,none⟩) n8 n8) an:=Ms.sl a9 cc cf
  obtain rfl:=oi h
  refine WP.ret (Out.two rfl S rfl rfl ?_)
  exact ⟨_,rfl,cg⟩
 exact hM.elim
end Go.Proofs
namespace Go.Proofs
open Go Go.Eng Go.VI Go.Eng.Pure
set_option linter.unusedVariables false
set_option maxRecDepth 10000
set_option maxHeartbeats 4000000
theorem c228:FE.ok (U:=UU) Tryz.prog ⟨228,[(.sl (.st 62)),(.sl .str)],[(.sl .str),.boo],fun x=>zEf x.1 x.2⟩:=@fun w H az x y hw hg b hT h=>by
 obtain ⟨f,_,rfl,c,⟨i,rfl,d⟩⟩:=hT
 exact (zF3 hw b x.1 x.2 c d h).mono (fun _ _ ⟨j,e,K0⟩=>⟨[_,_],e,_,_,rfl,K0,⟨_,rfl,rfl⟩⟩)
end Go.Proofs
namespace Go.Proofs
open Go.Eng Go.Eng.Pure
set_option linter.unusedVariables false
theorem zer69:zer Tryz.prog 69=some [(.pointer none),(.slice none 0 0)]:=by kernel_rfl
theorem zRY:fld Tryz.prog 69 0=some 0:=by kernel_rfl
instance:Fld Tryz.prog 69 0 0:=⟨zRY⟩
theorem lay66:lay Tryz.prog 66=some (false,1):=by kernel_rfl
instance:Lay Tryz.prog 66 (false,1):=⟨lay66⟩
theorem lay69:lay Tryz.prog 69=some (true,2):=by kernel_rfl
instance:Lay Tryz.prog 69 (true,2):=⟨lay69⟩
theorem inf69:∃ i,Tryz.prog.info? 69=some i:=Option.isSome_iff_exists.1 kr
theorem ceo69:Tryz.prog.cellsOf 69=2:=by kernel_rfl
theorem zC0 {f ws:World} {k Hs:Hp} {l:List Ent} (hG:Tryz.Gl f) (s0_buf:(List UInt8)) {d:Value} {c:Nat} (S:St f k ws Hs (.box c 69 [(.pointer none),d] :: .row d 5 1 s0_buf.length :: l)) (R0_1:Sl Hs d s0_buf) {r:Unit} (h:zDu s0_buf=some r) :
  ConS Tryz.prog 47 [(ptr c 0)] f k ws Hs l (fun H' v L'=>∃ j:Value,L'=[.box c 69 [(ptr c 0),j],.row j 5 1 s0_buf.length]∧v=(.tuple #[])∧Sl H' j s0_buf):=by
 refine ConS.mk (N:=20) Tryz.func47 rfl rfl kr rfl<|Ws<|Wg<|M<|Nn<|Fb ?_
 refine Lo 0 S ?_
 refine WL.w (v:=boo true) (R.ofEq (R.eqlPN rfl rfl Tryz.underlying66) rfl)<|We<|WP.condT (b:=true) rfl rfl<|Wg<|M ?_
 refine M ?_
 refine WL.w (R.toUnsafe (i:=0) S rfl rfl Tryz.underlying66 Tryz.underlying177 lay69 (by decide) (by simp))<|W.noEscape Tryz.func94 rfl rfl kr kr rfl ?_
 refine WL.w (R.fromUnsafe (i:=0) S rfl rfl Tryz.underlying177 Tryz.underlying66 inf69 ceo69 (by simp))<|Nn<|Fb ?_
 refine W.store (i:=0) [(ptr c 0),d] S rfl rfl rfl lay66 rfl rfl (Nat.le_of_ble_eq_true kr) rfl ?_
 intro o S
 refine We ?_
 obtain rfl:=oi h
 refine (OutS.zero (L':=[.box c 69 [(ptr c 0),d],.row d 5 1 s0_buf.length]) (.inr rfl) rfl lr S ?_)
 exact ⟨_,rfl,rfl,R0_1⟩
theorem zCm {f ws:World} {j Hs:Hp} {k:List Ent} (hG:Tryz.Gl f) (s0_buf:(List UInt8)) {d:Value} {c:Nat} (S:St f j ws Hs (.box c 69 [(ptr c 0),d] :: .row d 5 1 s0_buf.length :: k)) (R0_1:Sl Hs d s0_buf) {r:Unit} (h:zDS s0_buf=some r) :
  ConS Tryz.prog 47 [(ptr c 0)] f j ws Hs k (fun H' v L'=>∃ i:Value,L'=[.box c 69 [(ptr c 0),i],.row i 5 1 s0_buf.length]∧v=(.tuple #[])∧Sl H' i s0_buf):=by
 refine ConS.mk (N:=20) Tryz.func47 rfl rfl kr rfl<|Ws<|Wg<|M<|Nn<|Fb ?_
 refine Lo 0 S ?_
 refine WL.w (v:=boo false) (R.ofEq (R.eqlPN rfl rfl Tryz.underlying66) rfl)<|We<|WP.condF (b:=false) rfl rfl<|Ws<|Wg ?_
 refine M<|Nn<|Fb ?_
 refine Lo 0 S<|M ?_
 refine WL.w (R.neqPS rfl rfl Tryz.underlying66 inf69)<|We<|WP.condF (b:=false) rfl rfl<|Wk ?_
 obtain rfl:=oi h
 refine (OutS.zero (L':=[.box c 69 [(ptr c 0),d],.row d 5 1 s0_buf.length]) (.inr rfl) rfl lr S ?_)
 exact ⟨_,rfl,rfl,R0_1⟩
theorem zCX {c ws:World} {o Hs:Hp} {p:List Ent} (hG:Tryz.Gl c) (s0_buf:List UInt8) {d va0:Value} {b:Nat} (S:St c o ws Hs (.box b 69 [va0,d] :: .row d 5 1 s0_buf.length :: p)) (R0_1:Sl Hs d s0_buf) (t:va0=Value.pointer none∨va0=ptr b 0) {r:Unit} (h:zAu s0_buf=some r) :
  ConS Tryz.prog 47 [(ptr b 0)] c o ws Hs p (fun H' v L'=>∃ f i:Value,L'=[.box b 69 [f,i],.row i 5 1 s0_buf.length]∧v=(.tuple #[])∧(f=Value.pointer none∨f=ptr b 0)∧Sl H' i s0_buf):=by
 rcases t with rfl | rfl
 ·exact ConS.mono (zC0 hG s0_buf S R0_1 rfl) fun H' v L' ⟨u,j,k,l⟩=>⟨_,u,j,k,.inr rfl,l⟩
 exact ConS.mono (zCm hG s0_buf S R0_1 rfl) fun H' v L' ⟨u,j,k,l⟩=>⟨_,u,j,k,.inr rfl,l⟩
theorem zF1:fld Tryz.prog 69 1=some 1:=by kernel_rfl
instance:Fld Tryz.prog 69 1 1:=⟨zF1⟩
theorem lay67:lay Tryz.prog 67=some (false,1):=by kernel_rfl
instance:Lay Tryz.prog 67 (false,1):=⟨lay67⟩
theorem zAH {c ws:World} {f Hs:Hp} {j:List Ent} (hG:Tryz.Gl c) (t:Str) (s0_buf:(List UInt8)) {d:Value} {va0:Value} {b:Nat} (S:St c f ws Hs (.box b 69 [va0,d] :: .row d 5 1 s0_buf.length :: j)) (R0_1:Sl Hs d s0_buf) (z:va0=Value.pointer none∨va0=ptr b 0) {r:(Int×Unit×(List UInt8))} (h:zAD t s0_buf=some r) :
  ConS Tryz.prog 27 [(ptr b 0),(str t)] c f ws Hs j (fun H' v L'=>∃ k l:Value,L'=[.box b 69 [k,l],.row l 5 1 r.2.2.length]∧v=(.tuple ⟨[(int r.1),.nilIface]⟩)∧(k=Value.pointer none∨k=ptr b 0)∧Sl H' l r.2.2):=by
 refine ConS.mk (N:=19) Tryz.func27 rfl rfl kr rfl<|Ws<|Wg<|A<|A<|We<|Ws<|Wg<|M ?_
 replace S:=S.front 1 rfl
 replace S:=S.front 1 rfl
 replace S:St c f _ Hs (.box b 69 [va0,d] :: .row d 5 1 s0_buf.length :: j):=S
 refine B h fun r1 aa h=>W.callS rfl (zCX hG s0_buf S R0_1 z aa) ?_
 rintro v2 w3 H4 L6 ac S ⟨o,u,rfl,rfl,ad,ae⟩
 replace S:St c f _ H4 (.box b 69 [o,u] :: .row u 5 1 s0_buf.length :: j):=S
 refine We<|Ws<|Wg<|M<|M<|Nn<|Fb ?_
 refine Lo 0 S<|M<|B h fun af ah h=>W.appStr (i:=1) S el67 Tryz.underlying9 rfl rfl rfl ae ah ?_
 intro p an ao ai x S
 refine Nn<|Fb ?_
 refine W.storeSl (α:=UInt8) (i:=0) [o,p] S x rfl rfl rfl lay67 (Nat.le_of_ble_eq_true kr) rfl ?_
 intro ap S
 refine We<|Ws<|Wg<|M<|Ns<|A<|A<|We ?_
 obtain rfl:=oi h
 refine WP.ret (OutS.two (L':=[.box b 69 [o,p],.row p 5 1 af.length]) rfl (ac.trans ai) S rfl rfl ?_)
 exact ⟨_,_,rfl,rfl,ad,x⟩
end Go.Proofs
