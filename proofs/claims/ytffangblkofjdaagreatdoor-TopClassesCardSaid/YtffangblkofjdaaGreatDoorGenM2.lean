/- A part. -/
import Derived.Test.YtffangblkofjdaaGreatDoorEng38
import Derived.Test.YtffangblkofjdaaGreatDoorEng35
import Derived.Test.YtffangblkofjdaaGreatDoorGenM1
namespace Go.Proofs
set_option maxHeartbeats 4000000
set_option maxRecDepth 10000
open Go Go.Eng Go.VI Go.Eng.Pure
set_option linter.unusedVariables false
set_option maxRecDepth 10000
set_option maxHeartbeats 4000000
theorem c78:FE.ok (U:=UU) Tryz.prog ⟨78,[(.sl (.st 41))],[(.st 153)],fun x=>zCI x⟩:=@fun w H az x y hw hg b hT h=>by
 obtain ⟨d,rfl,c⟩:=hT
 exact (zFD hw b x c h).mono (fun _ _ e=>⟨[_],e,_,rfl,⟨_,rfl,rfl⟩⟩)
end Go.Proofs
namespace Go.Proofs
open Go.Eng Go.Eng.Pure
set_option linter.unusedVariables false
theorem lay36:lay Tryz.prog 36=some (false,1):=by kernel_rfl
instance:Lay Tryz.prog 36 (false,1):=⟨lay36⟩
theorem el22:Elem Tryz.prog 22 62 2:=zEr kr
theorem lay62:lay Tryz.prog 62=some (true,2):=by kernel_rfl
instance:Lay Tryz.prog 62 (true,2):=⟨lay62⟩
theorem zer3:zer Tryz.prog 3=some [(int 0)]:=by kernel_rfl
theorem zer62:zer Tryz.prog 62=some [(str []),(.slice none 0 0)]:=by kernel_rfl
theorem zL3:fld Tryz.prog 62 1=some 1:=by kernel_rfl
instance:Fld Tryz.prog 62 1 1:=⟨zL3⟩
theorem zMd:fld Tryz.prog 62 0=some 0:=by kernel_rfl
instance:Fld Tryz.prog 62 0 0:=⟨zMd⟩
def Tryz.vvariants_domain:Gvariants_domain→Value
  | .media=>.iface 173 (agg [])
  | .tags=>.iface 174 (agg [])
  | .words n=>.iface 175 (int n)
  | .texts=>.iface 176 (agg [])
end Go.Proofs
namespace Go.Proofs
open Go Go.Eng Go.VI Go.Eng.Pure
set_option linter.unusedVariables false
set_option maxRecDepth 10000
set_option maxHeartbeats 4000000
theorem c98:FE.ok (U:=UU) Tryz.prog ⟨98,[.int],[.str],fun x=>zBC x⟩:=mk anil (.e) Tryz.func98
theorem c97:FE.ok (U:=UU) Tryz.prog ⟨97,[.str,.str],[.boo],fun x=>zAz x.1 x.2⟩:=mk (fcons c25 anil) (.e) Tryz.func97
theorem c51:FE.ok (U:=UU) Tryz.prog ⟨51,[.str],[.int],fun x=>zCk x⟩:=mk (fcons c98 (fcons c97 anil)) (.n .e (.n (.n .e (.un 6 .e)) .e)) Tryz.func51
theorem zJc {b : World} {d : Hp} (hw : Holds b d) (hG : Tryz.Gl b) (c : Str) {r : Int} (h : zCk c = some r) :
    Ci Tryz.prog 51 [(str c)] b d r:=by
  refine (c51 (xs:=(c)) (y:=r) hw (fun _ _ e=>by cases e) hG ⟨_,rfl,rfl⟩ h).mono ?_
  rintro _ v ⟨_,rfl,D⟩
  obtain ⟨f,rfl,i⟩:=D
  obtain rfl:f=_:=i
  exact rfl
end Go.Proofs
namespace Go.Proofs
open Go.Eng Go.Eng.Pure
set_option linter.unusedVariables false
theorem bp173:zF7 Tryz.prog 173=some []:=by kernel_rfl
theorem zSI:zer Tryz.prog 173=some []:=by kernel_rfl
theorem bp174:zF7 Tryz.prog 174=some []:=by kernel_rfl
theorem zSJ:zer Tryz.prog 174=some []:=by kernel_rfl
theorem bp176:zF7 Tryz.prog 176=some []:=by kernel_rfl
theorem zSD:zer Tryz.prog 176=some []:=by kernel_rfl
theorem zDw {d : World} {j : Hp} (hw : Holds d j) (hG : Tryz.Gl d) (k : Str) {r : Gvariants_domain} (h : zBl k = some r) :
    Con Tryz.prog 46 [(str k)] d j (fun H' v=>v=(Tryz.vvariants_domain r)):=by
  refine CM 22 Tryz.func46 hw fun S=>?_
  refine Ws<|Wg<|A<|We<|Ws<|Ws<|Wg<|M<|B h fun c ac h=>W.call S rfl (zJc S.holds (hG.post S.post) k ac) ?_
  rintro v2 w3 x ai S rfl
  refine A<|We<|Ws<|Wg<|M<|We<|B h fun z b h=>WP.cut (fun f w=>match z with | .inl _=>∃ (H6:Hp),St d j w H6 [] | .inr _=>False) ?_ ?_
  · refine WP.block<|WP.s<|WP.g<|WL.w (R.eql rfl rfl)<|WL.a (boo (c==1)) rfl<|WL.e ?_
    rcases condE b with ⟨l,b⟩ | ⟨l,b⟩
    · refine WP.condT rfl l<|WP.s<|WP.g<|WL.w (R.build [] [] bp173 zSI rfl rfl)<|WL.w (v:=Tryz.vvariants_domain (.media:Gvariants_domain)) (R.ofEq (R.mkIface rfl Tryz.underlying173 (by intro _ h; cases h)) rfl)<|WL.a (Tryz.vvariants_domain (.media:Gvariants_domain)) rfl<|WL.e ?_
      obtain rfl:=oi b
      obtain rfl:=oi h
      refine WP.ret (Out.one rfl S rfl ?_)
      exact rfl
     refine WP.condF rfl l<|WP.s<|WP.g<|WL.w (R.eql rfl rfl)<|WL.a (boo (c==2)) rfl<|WL.e ?_
     rcases condE b with ⟨o,b⟩ | ⟨o,b⟩
     · refine WP.condT rfl o<|WP.s<|WP.g<|WL.w (R.build [] [] bp174 zSJ rfl rfl)<|WL.w (v:=Tryz.vvariants_domain (.tags:Gvariants_domain)) (R.ofEq (R.mkIface rfl Tryz.underlying174 (by intro _ h; cases h)) rfl)<|WL.a (Tryz.vvariants_domain (.tags:Gvariants_domain)) rfl<|WL.e ?_
       obtain rfl:=oi b
       obtain rfl:=oi h
       refine WP.ret (Out.one rfl S rfl ?_)
       exact rfl
      refine WP.condF rfl o<|WP.s<|WP.s<|WP.g<|WL.w (R.eql rfl rfl)<|WL.a (boo (c==3)) rfl<|WL.e ?_
      refine B b fun ad i b=>WP.cut (fun f w=>∃ (p:Hp),f 3=(int c)∧f 15=(boo ad)∧St d j w p []) ?_ ?_
      · rcases condE i with ⟨t,i⟩ | ⟨t,i⟩
        · refine WP.condT rfl t<|WP.skip ?_
          obtain rfl:=oi i
          exact ⟨x,rfl,rfl,S⟩
         refine WP.condF rfl t<|WP.g<|WL.w (R.eql rfl rfl)<|WL.a (boo (c==4)) rfl<|WL.e ?_
         obtain rfl:=oi i
         exact ⟨x,rfl,rfl,S⟩
       rintro f w ⟨p,ae,ab,S⟩
       rcases condE b with ⟨u,b⟩ | ⟨u,b⟩
       · refine WP.condT ab u<|WP.s<|WP.g<|WL.m (int c) ae<|WL.w (v:=Tryz.vvariants_domain (.words c:Gvariants_domain)) (R.ofEq (R.mkIface rfl Tryz.underlying175 (by intro _ h; cases h)) rfl)<|WL.a (Tryz.vvariants_domain (.words c:Gvariants_domain)) rfl<|WL.e ?_
         obtain rfl:=oi b
         obtain rfl:=oi h
         refine WP.ret (Out.one rfl S rfl ?_)
         exact rfl
        refine WP.condF ab u<|WP.skip ?_
        obtain rfl:=oi b
        exact ⟨p,S⟩
   intro f w hM
   rcases z with _ | e
   · obtain ⟨H6,S⟩:=hM
     refine Ws<|Wg ?_
     refine WL.w (R.build [] [] bp176 zSD rfl rfl) ?_
     refine WL.w (v:=Tryz.vvariants_domain (.texts:Gvariants_domain)) (R.ofEq (R.mkIface rfl Tryz.underlying176 (by intro _ h; cases h)) rfl)<|A<|We ?_
     obtain rfl:=oi h
     refine WP.ret (Out.one rfl S rfl ?_)
     exact rfl
    exact hM.elim
theorem zGU {b : World} {c : Hp} (hw : Holds b c) (d : Str) (f : Str) {r : Int} (h : zAs d f = some r) :
    Ci Tryz.prog 302 [(str d),(str f)] b c r :=
  zQm Tryz.func302 rfl kr hw h Tryz.stringslite_Index_one
end Go.Proofs
namespace Go.Proofs
open Go Go.Eng Go.VI Go.Eng.Pure
set_option linter.unusedVariables false
set_option maxRecDepth 10000
set_option maxHeartbeats 4000000
theorem c302:FE.ok (U:=UU) Tryz.prog ⟨302,[.str,.str],[.int],fun x=>zAs x.1 x.2⟩:=@fun w H az x y hw hg i hT h=>by
 obtain ⟨b,_,rfl,c,⟨d,rfl,f⟩⟩:=hT
 obtain rfl:b=_:=c
 obtain rfl:d=_:=f
 exact (zGU hw x.1 x.2 h).mono (fun _ _ e=>⟨[_],e,_,rfl,rfl⟩)
theorem c257:FE.ok (U:=UU) Tryz.prog ⟨257,[.str,.str],[.str,.str,.boo],fun x=>zES x.1 x.2⟩:=mk (fcons c302 anil) (.e) Tryz.func257
theorem c179:FE.ok (U:=UU) Tryz.prog ⟨179,[.str,.str],[.str,.str,.boo],fun x=>zCG x.1 x.2⟩:=mk (fcons c257 anil) (.e) Tryz.func179
theorem c237:FE.ok (U:=UU) Tryz.prog ⟨237,[.str],[.str,.str,.boo],fun x=>zHQ x⟩:=mk (fcons c216 (fcons c179 (fcons c25 (fcons c24 anil)))) (.n .e (.n .e (.n .e (.n (.n .e (.j ⟨[⟨.sl 6,.str,none⟩,⟨.sl 7,.boo,none⟩],some [],[]⟩ false .e)) .e)))) Tryz.func237
theorem c236:FE.ok (U:=UU) Tryz.prog ⟨236,[.str],[(.sl .str)],fun x=>zHN x⟩:=mk anil (.n .e (.n .e (.n .e (.n (.n .e (.lp ⟨[⟨.sl 3,(.sl .str),some 9⟩,⟨.sl 4,.boo,none⟩,⟨.sl 5,.int,none⟩,⟨.sl 6,.int,none⟩],some [],[]⟩ (some ⟨[⟨.sl 3,(.sl .str),some 9⟩,⟨.sl 5,.int,none⟩],some [],[]⟩) false .e)) .e)))) Tryz.func236
theorem c163:FE.ok (U:=UU) Tryz.prog ⟨163,[.str],[.str,(.sl (.st 270)),.boo],fun x=>zEC x⟩:=mk (fcons c237 (fcons c236 (fcons c174 anil))) (.n .e (.n .e (.n .e (.n .e (.n .e (.n (.n .e (.lp ⟨[⟨.sl 7,(.sl (.st 270)),some 270⟩,⟨.sl 24,.int,none⟩],some [],[]⟩ (some ⟨[⟨.sl 7,(.sl (.st 270)),some 270⟩],some [],[]⟩) true .e)) .e)))))) Tryz.func163
theorem c239:FE.ok (U:=UU) Tryz.prog ⟨239,[.str],[(.st 338),.boo],fun x=>zAn x⟩:=mk (fcons c179 (fcons c163 (fcons c25 (fcons c24 anil)))) (.e) Tryz.func239
theorem c244:FE.ok (U:=UU) Tryz.prog ⟨244,[.str],[(.st 338),.boo],fun x=>zBj x⟩:=mk (fcons c239 anil) (.e) Tryz.func244
theorem zG4 {b : World} {d : Hp} (hw : Holds b d) (hG : Tryz.Gl b) (c : Str) {r : (GMediaType × Bool)} (h : zBj c = some r) :
    Con Tryz.prog 244 [(str c)] b d (fun H' v=>∃ f:Value,v=(.tuple ⟨[(agg [(str r.1.fType),(str r.1.fSub),f]),(boo r.2)]⟩)∧Sl H' f r.1.fParams):=by
  refine (c244 (xs:=(c)) (y:=r) hw (fun _ _ e=>by cases e) hG ⟨_,rfl,rfl⟩ h).mono ?_
  rintro _ v ⟨_,rfl,D⟩
  obtain ⟨k,_,rfl,K0,⟨i,rfl,j⟩⟩:=D
  obtain ⟨_,rfl,⟨_,rfl,K0_0⟩⟩:=K0
  obtain rfl:i=_:=j
  exact ⟨_,rfl,K0_0⟩
end Go.Proofs
namespace Go.Proofs
open Go.Eng Go.Eng.Pure
set_option linter.unusedVariables false
theorem zQ3:zer Tryz.prog 338=some [(str []),(str []),(.slice none 0 0)]:=by kernel_rfl
theorem zNd:lay Tryz.prog 338=some (true,3):=by kernel_rfl
instance:Lay Tryz.prog 338 (true,3):=⟨zNd⟩
theorem zQr:fld Tryz.prog 338 2=some 2:=by kernel_rfl
instance:Fld Tryz.prog 338 2 2:=⟨zQr⟩
theorem zQ8:lay Tryz.prog 266=some (false,1):=by kernel_rfl
instance:Lay Tryz.prog 266 (false,1):=⟨zQ8⟩
theorem el266:Elem Tryz.prog 266 270 2:=zEr kr
theorem zJx:lay Tryz.prog 270=some (true,2):=by kernel_rfl
instance:Lay Tryz.prog 270 (true,2):=⟨zJx⟩
theorem zQ9:zer Tryz.prog 270=some [(str []),(str [])]:=by kernel_rfl
theorem zNX:fld Tryz.prog 270 0=some 0:=by kernel_rfl
instance:Fld Tryz.prog 270 0 0:=⟨zNX⟩
theorem zCH {j : World} {c : Hp} (hw : Holds j c) (hG : Tryz.Gl j) (k : (List GParam)) (p : (GParam → Option Bool)) {l : Value} {kp_f : FuncId} {cp_f : List Value} (d : Sl c l k) (Fp_f : ∀ {w : World} {H : Hp}, c.le H → Holds w H → Tryz.Gl w → ∀ (t : GParam) (rr : Bool), p t = some rr → Con Tryz.prog kp_f ([(agg [(str t.fName), (str t.fValue)])] ++ cp_f) w H (fun H' v => v = (boo rr))) {r : Int} (h : zAP k p = some r) :
    Ci Tryz.prog 164 [l,(.func (.func kp_f) #[] cp_f.toArray)] j c r:=by
  refine CM 19 Tryz.func164 hw fun S=>?_
  refine Ws<|Wg<|A<|We<|Ws<|Ws<|Wg<|M<|Nq d<|M<|We<|B h fun u ai h=>WP.cut (fun f w=>match u with | .inl _=>∃ (H7:Hp),St j c w H7 [] | .inr _=>False) ?_ ?_
  · refine WP.block ?_
    refine WP.loopM (zAG k p) (fun s f w=>match s with | i=>∃ (o:Hp),f 0=l∧f 1=(.func (.func kp_f) #[] cp_f.toArray)∧f 7=(int (k.length:Int))∧f 8=(int i)∧Sl o l k∧St j c w o []) 0 u ai ?_ ?_
    · exact ⟨c,rfl,rfl,rfl,rfl,d,S⟩
     intro i f w hI y8 b ad
     obtain ⟨o,h2,h3,h4,x,d,S⟩:=hI
     refine Ws<|Wg<|La' x h4<|We<|Ws ?_
     rcases condE b with ⟨z,b⟩ | ⟨z,b⟩
     · refine WP.condT rfl z<|WP.skip<|WP.s<|WP.block<|WP.s<|WP.g<|WL.m (int i) x<|WL.a (int i) rfl<|WL.e<|WP.s<|WP.g<|WL.m (.func (.func kp_f) #[] cp_f.toArray) h3 ?_
       refine M' h2<|M<|B b fun aa aj b=>W.idx (α:=GParam) d rfl rfl el266 aj ?_
       rintro ap _ ak rfl
       refine WL.w (R.loadHN (vs:=[(str aa.fName),(str aa.fValue)]) S rfl ak zJx rfl rfl)<|B b fun aq al b=>W.callv S rfl rfl (Fp_f (S.post.le) S.holds (hG.post S.post) aa _ al) ?_
       rintro au av am an S rfl
       have d:=d.up an
       refine We ?_
       rcases condE b with ⟨ab,b⟩ | ⟨ab,b⟩
       · refine WP.condT rfl ab<|WP.s<|WP.g<|WL.m (int i) rfl<|WL.a (int i) rfl<|WL.e ?_
         obtain rfl:=oi b
         obtain rfl:=ad
         exact WP.ret (Ri h S)
        refine WP.condF rfl ab<|WP.skip<|WP.g<|WL.w (R.add x rfl)<|WL.m (int (wr (i+1))) rfl<|WL.e ?_
        obtain rfl:=oi b
        exact ⟨rfl,⟨am,h2,h3,h4,rfl,d,S⟩⟩
      refine WP.condF rfl z<|WP.exit ?_
      obtain rfl:=oi b
      obtain rfl:=ad
      exact ⟨o,S⟩
   intro f w hM
   rcases u with _ | e
   · obtain ⟨H7,S⟩:=hM
     refine Ws<|Wg<|A<|We ?_
     exact WP.ret (Ri h S)
    exact hM.elim
theorem zBz {c : World} {b : Hp} (hw : Holds c b) (hG : Tryz.Gl c) (d : (List GParam)) (f : (GParam → Option Bool)) {j : Value} {kp_f : FuncId} {cp_f : List Value} (k : Sl b j d) (Fp_f : ∀ {w : World} {H : Hp}, b.le H → Holds w H → Tryz.Gl w → ∀ (i : GParam) (rr : Bool), f i = some rr → Con Tryz.prog kp_f ([(agg [(str i.fName), (str i.fValue)])] ++ cp_f) w H (fun H' v => v = (boo rr))) {r : Bool} (h : zAR d f = some r) :
    Cb Tryz.prog 372 [j,(.func (.func kp_f) #[] cp_f.toArray)] c b r:=by
  refine CM 9 Tryz.func372 hw fun S=>?_
  refine Ws<|Wg<|A<|We<|Ws<|Wg<|M<|M<|B h fun o l h=>W.call S rfl (zCH S.holds (hG.post S.post) d f k (fun hle=>Fp_f (Hp.le.trans S.post.le hle)) l) ?_
  rintro p t u x S rfl
  refine Ld<|A<|We ?_
  exact WP.ret (Rb h S)
theorem zFE {c : World} {d : Hp} (hw : Holds c d) (hG : Tryz.Gl c) (b : GParam) (f : GParam) {i : Addr} (j : At d i [(str f.fName), (str f.fValue)]) {r : Bool} (h : zBX b f = some r) :
    Cb Tryz.prog 373 [(agg [(str b.fName),(str b.fValue)]),(.pointer (some i))] c d r:=by
  refine CM 9 Tryz.func373 hw fun S=>?_
  refine Ws<|Wg ?_
  refine W.box [(str b.fName),(str b.fValue)] S rfl rfl ?_
  intro l o S
  refine A<|We<|Ws<|Wg<|Fb ?_
  refine Lo 0 S<|Fc ?_
  have k:=At.add j 0 (by simp)
  refine Lq S k<|Na<|A<|We ?_
  exact WP.ret (Rb h S)
theorem zFh {u : World} {z : Hp} (hw : Holds u z) (hG : Tryz.Gl u) (aw : Unit) (aa : Str) {r : (Str × Bool)} (h : zBt aw aa = some r) :
    Con Tryz.prog 371 [(agg []),(str aa)] u z (fun H' v=>v=(.tuple ⟨[(str r.1),(boo r.2)]⟩)):=by
  refine CM 42 Tryz.func371 hw fun S=>?_
  refine Ws<|Wg ?_
  refine W.box [] S rfl rfl ?_
  intro b1 w2 S
  refine A<|A<|We<|Ws<|Wg<|M<|B h fun d ax h=>W.call S rfl (zG4 S.holds (hG.post S.post) aa ax) ?_
  rintro v4 w5 H6 bo S ⟨x,rfl,j⟩
  refine M ?_
  refine Ex ?_
  refine Ex ?_
  refine W.alloc [(str []),(str []),(.slice none 0 0)] S zQ3 ?_
  intro ac bp S
  refine W.store (i:=0) [(str d.1.fType),(str d.1.fSub),x] S rfl rfl rfl zNd rfl (AllOne.all (l:=[(str d.1.fType),(str d.1.fSub),x]) (.cons rfl (.cons rfl (.cons (Sl.oneC j) .nil)))) (Nat.le_of_ble_eq_true rfl) rfl ?_
  intro bq S
  refine A<|We<|Ws<|Ws<|Wg<|Fb ?_
  refine Lo 0 S<|Nq j<|M<|We<|B h fun ak az h=>WP.cut (fun f w=>∃ (al:Hp),f 1=(str aa)∧f 7=(boo ak)∧St u z w al []) ?_ ?_
  · refine WP.block ?_
    refine WP.loopM (zAw d) (fun s f w=>match s with | (ab,ah)=>∃ (ad:Hp),f 1=(str aa)∧f 6=(ptr ac 0)∧f 7=(boo ab)∧f 16=x∧f 17=(int (d.1.fParams.length:Int))∧f 18=(int ah)∧Sl ad x d.1.fParams∧St u z w ad [.box ac 338 [(str d.1.fType),(str d.1.fSub),x]]) (d.2,0) ak az ?_ ?_
    · exact ⟨H6,rfl,rfl,rfl,rfl,rfl,rfl,j,(S.pk [0])⟩
     intro s f w hI br t a0
     obtain ⟨ab,ah⟩:=s
     obtain ⟨ad,am,an,ao,ap,aq,ae,j,S⟩:=hI
     refine Ws<|Wg<|La' ae aq<|We<|Ws ?_
     rcases condE t with ⟨ai,t⟩ | ⟨ai,t⟩
     · refine WP.condT rfl ai<|WP.skip<|WP.s<|WP.block<|WP.s<|WP.g<|WL.m (int ah) ae ?_
       refine B t fun k a1 t=>W.idx (α:=GParam) j ap ae el266 a1 ?_
       rintro bs _ a2 rfl
       refine WL.w (R.loadHN (vs:=[(str k.fName),(str k.fValue)]) S rfl a2 zJx rfl rfl) ?_
       refine W.alloc [(str []),(str [])] S zQ9 ?_
       intro au bt S
       refine A ?_
       refine W.store (i:=0) [(str k.fName),(str k.fValue)] S rfl rfl rfl zJx rfl rfl (Nat.le_of_ble_eq_true rfl) rfl ?_
       intro bu S
       refine We<|Wg<|M' ao<|M ?_
       refine WL.grp 4 [25,26,27] 28 (boo (ab&&(k.fName !=[113]))) ?_ ?_
       · rcases boolE ab with o | o
         · refine WL.y rfl rfl o<|WL.w (R.fieldB rfl zNX)<|WL.y rfl rfl o<|WL.w (R.loadB (i:=0) (v:=str k.fName) S rfl rfl lay9 rfl)<|WL.y rfl rfl o<|WL.w (R.neqS (a:=k.fName) (b:=[113]) rfl rfl)<|WL.w (R.pickT rfl o rfl) ?_
           exact We ⟨(andT o),ag,rfl⟩
          refine WL.n rfl rfl o<|WL.n rfl rfl o<|WL.n rfl rfl o<|WL.w (R.pickF rfl o rfl) ?_
          exact We ⟨(andF o),ag,rfl⟩
        intro us
        refine M ?_
        obtain ⟨af,a3,a4,_,S⟩:=S.settle (i:=0) rfl
        replace S:St u z _ af [.box ac 338 [(str d.1.fType),(str d.1.fSub),x]]:=S
        have a5:At af ⟨au,0,none⟩ [(str k.fName),(str k.fValue)]:=⟨_,_,rfl,a4,[],by simp⟩
        have j:=j.up a3
        refine B t fun a6 p t=>WL.grpw 8 [30,31,32,33,34,35,36] 37 (boo a6) (fun w=>∃ H':Hp,af.le H'∧St u z w H' [.box ac 338 [(str d.1.fType),(str d.1.fSub),x]]) ?_ ?_
        · rcases boolE (ab&&(k.fName !=[113])) with c | c
          · replace p:=condT p c
            refine Gy c<|Fb' an<|Gy c ?_
            refine Lo 0 S<|Gy c<|M<|Gy c<|B p fun a7 a8 p=>W.subHi (α:=GParam) j rfl rfl el266 a8 ?_
            intro bv a9
            refine Gy c ?_
            refine WL.w (R.mkFunc (vs:=[(.pointer (some ⟨au,0,none⟩))]) rfl)<|Gy c<|B p fun bw ba p=>W.call S rfl (zBz S.holds (hG.post S.post) a7 (fun x0=>zBX x0 k) a9 (fun hle hw hG x0 r h=>zFE hw hG x0 k (At.mono a5 hle (by simp)) h) ba) ?_
            rintro bx bz bb av S rfl
            have j:=j.up av
            refine Gy c<|No<|Pt c ?_
            exact We ⟨(ob p),ag,⟨bb,av,S⟩⟩
           replace p:=condF p c
           refine Gn c<|Gn c<|Gn c<|Gn c<|Gn c<|Gn c<|Gn c<|Pf c ?_
           exact We ⟨(ob p),ag,⟨af,lr,S⟩⟩
         intro us b0 ⟨bc,bd,S⟩
         have j:=j.up bd
         refine A<|We<|Wg<|Lg' ae rfl<|M<|We ?_
         obtain rfl:=oi t
         exact ⟨rfl,⟨bc,am,an,rfl,ap,aq,rfl,j,S⟩⟩
      refine WP.condF rfl ai<|WP.exit ?_
      obtain rfl:=oi t
      obtain rfl:=a0
      exact ⟨ad,am,ao,(S.pk [])⟩
   rintro f w ⟨al,be,bf,S⟩
   refine Ws<|Wg<|M' be<|B h fun b2 bg h=>W.call S rfl (zA5 S.holds (hG.post S.post) aa bg) ?_
   rintro b3 b4 b5 b6 S rfl
   refine M' bf<|A<|A<|We ?_
   obtain rfl:=oi h
   refine WP.ret (Out.two rfl S rfl rfl ?_)
   exact rfl
theorem zHY {u : World} {x : Hp} (hw : Holds u x) (hG : Tryz.Gl u) (l : Str) (j : Bool) {r : Bool} (h : zCF l j = some r) :
    Cb Tryz.prog 321 [(str l),(boo j)] u x r:=by
  refine CM 41 Tryz.func321 hw fun S=>?_
  refine Ws<|Wg<|A<|We<|Ws<|Ws<|Wg<|M<|B h fun v ap h=>W.call S rfl (zA5 S.holds (hG.post S.post) l ap) ?_
  rintro v2 w3 H4 az S rfl
  refine W.bytes (s:=v) S rfl Tryz.underlying9 Tryz.underlying67 Tryz.underlying5 ?_
  intro b6 c7 w8 a1 S
  refine Nv<|M<|We<|B h fun aa av h=>WP.cut (fun f w=>match aa with | .inl _=>∃ (ah:Hp),f 0=(str l)∧St u x w ah [] | .inr _=>False) ?_ ?_
  · refine WP.block ?_
    refine WP.loopM (zBU j v) (fun s f w=>match s with | ab=>∃ (z:Hp),f 0=(str l)∧f 1=(boo j)∧f 9=(.slice (some ⟨b6,0,none⟩) v.length c7)∧f 10=(int (v.length:Int))∧f 11=(int ab)∧St u x w z [.box b6 5 (v.map byt)]) 0 aa av ?_ ?_
    · exact ⟨H4,rfl,rfl,rfl,rfl,rfl,S⟩
     intro ab f w hI a2 d ai
     obtain ⟨z,aj,ak,al,am,ac,S⟩:=hI
     refine Ws<|Wg<|La' ac am<|We<|Ws ?_
     rcases condE d with ⟨ad,d⟩ | ⟨ad,d⟩
     · refine WP.condT rfl ad<|WP.skip<|WP.s<|WP.block<|WP.s<|WP.g ?_
       refine B d fun c24 an d=>?_
       have a3:=(zCL an).2
       refine WL.w (R.idxB al ac el67 (zCL an).2)<|B d fun c26 aw d=>?_
       refine WL.w (R.loadB (i:=0) S rfl rfl lay5 (zCL aw).1)<|A<|We<|Ws<|Wg<|M<|Ma c26 97<|M ?_
       refine WL.grp 3 [18,19] 20 (boo ((decide (c26<97))||(decide (122<c26)))) ?_ ?_
       · rcases boolE (decide (c26<97)) with o | o
         · refine WL.n rfl rfl o<|WL.n rfl rfl o<|WL.w (R.pickT rfl o rfl) ?_
           exact We ⟨(orT o),ag,rfl⟩
          refine WL.y rfl rfl o<|WL.m (byt c26) rfl<|WL.y rfl rfl o<|WL.w (R.gtr8 (a:=c26) (b:=122) rfl rfl)<|WL.w (R.pickF rfl o rfl) ?_
          exact We ⟨(orF o),ag,rfl⟩
        intro us
        refine M ?_
        refine WL.grp 11 [22,23,24,25,26,27,28,29,30,31] 32 (boo (((decide (c26<97))||(decide (122<c26)))&&(((!j)||(decide (c26<48)))||(decide (57<c26))))) ?_ ?_
        · rcases boolE ((decide (c26<97))||(decide (122<c26))) with c | c
          · refine WL.y rfl rfl c<|WL.m (boo j) ak<|WL.y rfl rfl c<|WL.w (R.not rfl)<|WL.y rfl rfl c<|WL.m (boo (!j)) rfl ?_
            refine WL.grp 3 [25,26] 27 (boo ((!j)||(decide (c26<48)))) ?_ ?_
            · rcases boolE (!j) with p | p
              · refine WL.n rfl rfl p<|WL.n rfl rfl p<|WL.y rfl rfl c<|WL.w (R.pickT rfl p rfl) ?_
                exact We ⟨(orT p),ag,rfl⟩
               refine WL.y rfl rfl p<|WL.m (byt c26) rfl<|WL.y rfl rfl p<|WL.w (R.lss8 (a:=c26) (b:=48) rfl rfl)<|WL.y rfl rfl c<|WL.w (R.pickF rfl p rfl) ?_
               exact We ⟨(orF p),ag,rfl⟩
             intro us
             refine Gy c<|M ?_
             refine WL.grp 3 [29,30] 31 (boo (((!j)||(decide (c26<48)))||(decide (57<c26)))) ?_ ?_
             · rcases boolE ((!j)||(decide (c26<48))) with t | t
               · refine WL.n rfl rfl t<|WL.n rfl rfl t<|WL.y rfl rfl c<|WL.w (R.pickT rfl t rfl) ?_
                 exact We ⟨(orT t),ag,rfl⟩
                refine WL.y rfl rfl t<|WL.m (byt c26) rfl<|WL.y rfl rfl t<|WL.w (R.gtr8 (a:=c26) (b:=57) rfl rfl)<|WL.y rfl rfl c<|WL.w (R.pickF rfl t rfl) ?_
                exact We ⟨(orF t),ag,rfl⟩
              intro us
              refine Pt c ?_
              exact We ⟨(andT c),ag,rfl⟩
           refine WL.n rfl rfl c<|WL.n rfl rfl c<|WL.n rfl rfl c<|WL.gund rfl rfl<|WL.gund rfl rfl<|WL.n rfl rfl c<|WL.n rfl rfl c<|WL.gund rfl rfl<|WL.gund rfl rfl<|WL.n rfl rfl c<|WL.w (R.pickF rfl c rfl) ?_
           exact We ⟨(andF c),ag,rfl⟩
         intro us
         refine We ?_
         rcases condE d with ⟨ae,d⟩ | ⟨ae,d⟩
         · refine WP.condT rfl ae<|WP.s<|WP.g<|WL.a (boo false) rfl<|WL.e ?_
           obtain rfl:=oi d
           obtain rfl:=ai
           exact WP.ret (Rb h S)
          refine WP.condF rfl ae<|WP.skip<|WP.g<|WL.w (R.add ac rfl)<|WL.m (int (wr (ab+1))) rfl<|WL.e ?_
          obtain rfl:=oi d
          exact ⟨rfl,⟨z,aj,ak,al,am,rfl,S⟩⟩
      refine WP.condF rfl ad<|WP.exit ?_
      obtain rfl:=oi d
      obtain rfl:=ai
      exact ⟨z,aj,(S.pk [])⟩
   intro f w hM
   rcases aa with _ | e
   · obtain ⟨ah,ao,S⟩:=hM
     refine Ws<|Wg<|M' ao<|Nb<|M ?_
     refine WL.grp 4 [37,38,39] 40 (boo ((l !=[])&&(decide ((l.length:Int)≤8)))) ?_ ?_
     · rcases boolE (l !=[]) with k | k
       · refine WL.y rfl rfl k<|WL.m (str l) ao<|WL.y rfl rfl k<|WL.w (R.lenS (a:=l) rfl Tryz.underlying9)<|WL.y rfl rfl k<|WL.w (R.leq rfl rfl)<|WL.w (R.pickT rfl k rfl) ?_
         exact We ⟨(andT k),ag,rfl⟩
        refine WL.n rfl rfl k<|WL.n rfl rfl k<|WL.n rfl rfl k<|WL.w (R.pickF rfl k rfl) ?_
        exact We ⟨(andF k),ag,rfl⟩
      intro us
      refine A<|We ?_
      exact WP.ret (Rb h S)
    exact hM.elim
end Go.Proofs
namespace Go.Proofs
open Go Go.Eng Go.VI Go.Eng.Pure
set_option linter.unusedVariables false
set_option maxRecDepth 10000
set_option maxHeartbeats 4000000
theorem c321:FE.ok (U:=UU) Tryz.prog ⟨321,[.str,.boo],[.boo],fun x=>zCF x.1 x.2⟩:=@fun w H az x y hw hg b hT h=>by
 obtain ⟨c,_,rfl,d,⟨f,rfl,i⟩⟩:=hT
 obtain rfl:c=_:=d
 obtain rfl:f=_:=i
 exact (zHY hw b x.1 x.2 h).mono (fun _ _ e=>⟨[_],e,_,rfl,rfl⟩)
theorem c275:FE.ok (U:=UU) Tryz.prog ⟨275,[.str,.str],[.int],fun x=>zCO x.1 x.2⟩:=mk (fcons c302 anil) (.e) Tryz.func275
theorem zDt {b : World} {f : Hp} (hw : Holds b f) (hG : Tryz.Gl b) (c : Str) (d : Str) {r : Int} (h : zCO c d = some r) :
    Ci Tryz.prog 275 [(str c),(str d)] b f r:=by
  refine (c275 (xs:=(c,d)) (y:=r) hw (fun _ _ e=>by cases e) hG ⟨_,_,rfl,rfl,⟨_,rfl,rfl⟩⟩ h).mono ?_
  rintro _ v ⟨_,rfl,D⟩
  obtain ⟨i,rfl,j⟩:=D
  obtain rfl:i=_:=j
  exact rfl
end Go.Proofs
namespace Go.Proofs
open Go.Eng Go.Eng.Pure
set_option linter.unusedVariables false
theorem zFg {k : World} {l : Hp} (hw : Holds k l) (hG : Tryz.Gl k) (i : Str) (b : Str) {r : Int} (h : zBw i b = some r) :
    Ci Tryz.prog 289 [(str i),(str b)] k l r:=by
  refine CM 34 Tryz.func289 hw fun S=>?_
  refine Ws<|Wg<|A<|We<|Ws<|Ws<|Wg<|M<|Ns<|Le<|We ?_
  rcases condE h with ⟨p,h⟩ | ⟨p,h⟩
  · refine WP.condT rfl p<|WP.s<|WP.g<|WL.m (str i) rfl ?_
    cases h
   refine WP.condF rfl p<|WP.skip<|WP.s<|WP.s<|WP.g<|WL.m (str b) rfl<|WL.w (R.lenS (a:=b) rfl Tryz.underlying9)<|WL.w (R.eql rfl rfl)<|WL.e ?_
   rcases condE h with ⟨t,h⟩ | ⟨t,h⟩
   · refine WP.condT rfl t<|WP.s<|WP.g<|WL.m (str i) rfl<|WL.m (str b) rfl ?_
     refine B h fun c3 ac h=>Ja ac<|W.countString (s:=i) (c:=c3) Tryz.func323 rfl rfl kr kr rfl rfl<|A<|We ?_
     exact WP.ret (Ri h S)
    refine WP.condF rfl t<|WP.skip<|WP.s<|WP.g<|WL.a (int 0) rfl<|WL.e ?_
    refine B h fun ad ae h=>WP.cut (fun _ _=>False) ?_ (fun _ _ h=>h.elim)
    refine Wb ?_
    refine WP.loopM (zFc b) (fun s f w=>match s with | (o,j)=>∃ (x:Hp),f 0=(str o)∧f 1=(str b)∧f 5=(int j)∧St k l w x []) (i,0) ad ae ?_ ?_
    · exact ⟨l,rfl,rfl,rfl,S⟩
     intro s f w hI al d af
     obtain ⟨o,j⟩:=s
     obtain ⟨x,z,u,h9,S⟩:=hI
     refine Wb<|Ws<|Wg<|M' z<|M' u<|B d fun ah ai d=>W.call S rfl (zDt S.holds (hG.post S.post) o b ai) ?_
     rintro am an aj ao S rfl
     refine A<|We<|Ws<|Ws<|Wg<|M<|Le<|We ?_
     rcases condE d with ⟨v,d⟩ | ⟨v,d⟩
     · refine WP.condT rfl v<|WP.s<|WP.g<|WL.m (int j) h9<|WL.a (int j) rfl<|WL.e ?_
       obtain rfl:=oi d
       obtain rfl:=af
       exact WP.ret (Ri h S)
      refine WP.condF rfl v<|WP.skip<|WP.s<|WP.g<|WL.m (int j) h9<|WL.w (R.add rfl rfl)<|WL.a (int (wr (j+1))) rfl<|WL.e<|WP.g<|WL.m (str o) z<|WL.m (int ah) rfl<|WL.m (str b) u ?_
      refine Ns<|Lg<|B d fun ap ak d=>Jc ak<|A<|We ?_
      obtain rfl:=oi d
      exact ⟨rfl,⟨aj,rfl,u,rfl,S⟩⟩
theorem zGv {l : World} {o : Hp} (hw : Holds l o) (hG : Tryz.Gl l) (j : Str) (d : Str) (u : Int) (ae : Int) {r : (List Str)} (h : zCg j d u ae = some r) :
    Con Tryz.prog 338 [(str j),(str d),(int u),(int ae)] l o (fun H' v=>Sl H' v r):=by
  refine CM 66 Tryz.func338 hw fun S=>?_
  refine Ws<|Wg<|A<|We<|Ws<|Ws<|Wg<|M<|Le<|We ?_
  rcases condE h with ⟨an,h⟩ | ⟨an,h⟩
  · refine WP.condT rfl an<|WP.s<|WP.g<|WL.a (.slice none 0 0) rfl<|WL.e ?_
    exact WP.ret (Rl h S Sl.nil)
   refine WP.condF rfl an<|WP.skip<|WP.s<|WP.s<|WP.g<|WL.m (str d) rfl<|WL.w (R.eqlS (a:=d) (b:=[]) rfl rfl)<|WL.e ?_
   rcases condE h with ⟨ao,h⟩ | ⟨ao,h⟩
   · refine WP.condT rfl ao<|WP.s<|WP.g<|WL.m (str j) rfl<|WL.m (int ae) rfl ?_
     cases h
    refine WP.condF rfl ao<|WP.skip<|WP.s<|WP.s<|WP.g<|WL.m (int ae) rfl<|WL.w (R.lss rfl rfl)<|WL.e ?_
    refine B h fun af p h=>WP.cut (fun f w=>∃ (H3:Hp),f 0=(str j)∧f 1=(str d)∧f 2=(int u)∧f 3=(int af)∧St l o w H3 []) ?_ ?_
    · rcases condE p with ⟨aq,p⟩ | ⟨aq,p⟩
      · refine WP.condT rfl aq<|WP.g<|WL.m (str j) rfl<|WL.m (str d) rfl ?_
        refine B p fun ce be p=>W.call S rfl (zFg S.holds (hG.post S.post) j d be) ?_
        rintro cf cg bf ch S rfl
        refine Lg<|A<|We ?_
        obtain rfl:=oi p
        exact ⟨bf,rfl,rfl,rfl,rfl,S⟩
       refine WP.condF rfl aq<|WP.skip ?_
       obtain rfl:=oi p
       exact ⟨o,rfl,rfl,rfl,rfl,S⟩
     rintro f w ⟨H3,h4,h5,h6,h8,S⟩
     refine Ws<|Wg<|M' h8<|M' h4<|Ns<|Lg<|Ni<|A<|We<|Ws<|Wg<|M<|B h fun bj bn h=>W.makeSlice (α:=Str) (zv:=(str [])) (z:=[]) S el36 rfl rfl rfl zer9 rfl bn ?_
     intro t ci bo k bp bq S
     refine A<|We<|Ws<|Wg<|M<|Lh<|A<|We<|Ws<|Wg<|A<|We ?_
     refine Ws<|B h fun au br h=>WP.cut (fun f w=>match au with | (a4,av,ah)=>∃ (aw:Hp) (ax:List Value),f 0=(str a4)∧f 9=(.slice (some ⟨t,0,none⟩) k k)∧f 10=(int av)∧Ms aw ax ah∧ah.length=k∧St l o w aw [.box t 9 ax]) ?_ ?_
     · refine WP.block ?_
       refine WP.loopM (zAr j d u af) (fun s f w=>match s with | (x,ai,aj)=>∃ (ak:Hp) (aa:List Value),f 0=(str x)∧f 1=(str d)∧f 2=(int u)∧f 3=(int (wr ((if (wr ((j.length:Int)+1))<af then (wr ((j.length:Int)+1)) else af) - 1)))∧f 9=(.slice (some ⟨t,0,none⟩) k k)∧f 10=(int ai)∧Ms ak aa aj∧aj.length=k∧St l o w ak [.box t 9 aa]) (j,0,bj) au br ?_ ?_
       · exact ⟨H3,bo,h4,h5,h6,rfl,rfl,rfl,bq,bp,S⟩
        intro s f w hI cj c a5
        obtain ⟨x,ai,aj⟩:=s
        obtain ⟨ak,aa,ab,ay,a6,a7,al,ac,ad,am,S⟩:=hI
        refine Ws<|Ws<|Wg<|M' ac<|M' a7<|La<|We ?_
        rcases condE c with ⟨az,c⟩ | ⟨az,c⟩
        · refine WP.condT rfl az<|WP.skip<|WP.block<|WP.s<|WP.g<|WL.m (str x) ab<|WL.m (str d) ay ?_
          refine B c fun bs bt c=>W.call S rfl (zDt S.holds (hG.post S.post) x d bt) ?_
          rintro ck cl a8 bu S rfl
          have ad:=Ms.mono ad bu
          refine A<|We<|Ws<|Ws<|Wg<|M<|La<|We ?_
          rcases condE c with ⟨a0,c⟩ | ⟨a0,c⟩
          · refine WP.condT rfl a0<|WP.exit ?_
            obtain rfl:=oi c
            obtain rfl:=a5
            exact ⟨a8,aa,ab,al,ac,ad,am,S⟩
           refine WP.condF rfl a0<|WP.skip<|WP.s<|WP.g<|WL.m (.slice (some ⟨t,0,none⟩) k k) al<|WL.m (int ai) ac<|WL.m (str x) ab<|WL.m (int bs) rfl<|WL.m (int u) a6<|WL.w (R.add rfl rfl) ?_
           refine B c fun cm bv c=>Jd bv<|B c fun cn bw c=>?_
           refine WL.w (R.idxM (α:=Str) (xs:=aj) rfl am rfl el36 bw)<|B c fun co a9 c=>?_
           refine W.storeM (α:=Str) (i:=0) (m:=ai) S ad rfl rfl rfl lay9 rfl rfl a9 ?_
           intro cp bx bz S
           have b0:=(zEf a9).1.trans am
           refine We<|Ws<|Wg<|M' ab<|M<|M' ay<|Ns<|Lg<|B c fun cq b1 c=>Jc b1<|A<|We<|Wg<|M' ac<|Lg<|A<|We ?_
           obtain rfl:=oi c
           exact ⟨rfl,⟨a8,bx,rfl,ay,a6,a7,al,rfl,bz,b0,S⟩⟩
         refine WP.condF rfl az<|WP.exit ?_
         obtain rfl:=oi c
         obtain rfl:=a5
         exact ⟨ak,aa,ab,al,ac,ad,am,S⟩
      intro f w hM
      obtain ⟨a4,av,ah⟩:=au
      obtain ⟨aw,ax,b2,ba,bb,b3,bc,S⟩:=hM
      refine Ws<|Wg<|M' ba<|M' bb<|M' b2<|B h fun cr b4 h=>?_
      refine WL.w (R.idxM (α:=Str) (xs:=ah) rfl bc rfl el36 b4)<|B h fun b5 bd h=>?_
      refine W.storeM (α:=Str) (i:=0) (m:=av) S b3 rfl rfl rfl lay9 rfl rfl bd ?_
      intro cs b6 a1 S
      have b7:=(zEf bd).1.trans bc
      refine We<|Ws<|Wg<|M' ba<|M' bb<|Lg ?_
      obtain ⟨a2,b8,b9,_,S⟩:=S.settle (i:=0) rfl
      replace S:St l o _ a2 []:=S
      have ca:At a2 ⟨t,0,none⟩ b6:=⟨_,_,rfl,b9,[],by simp⟩
      have a1:=Ms.mono a1 b8
      have cb:Sl a2 (.slice (some ⟨t,0,none⟩) k k) b5:=Ms.sl a1 b7 ca
      refine B h fun ct cc h=>W.subHi (α:=Str) cb rfl rfl el36 cc ?_
      intro cu cd
      refine A<|We ?_
      exact WP.ret (Rl h S cd)
end Go.Proofs
namespace Go.Proofs
open Go Go.Eng Go.VI Go.Eng.Pure
set_option linter.unusedVariables false
set_option maxRecDepth 10000
set_option maxHeartbeats 4000000
theorem c338:FE.ok (U:=UU) Tryz.prog ⟨338,[.str,.str,.int,.int],[(.sl .str)],fun x=>zCg x.1 x.2.1 x.2.2.1 x.2.2.2⟩:=@fun w H az x y hw hg b hT h=>by
 obtain ⟨c,_,rfl,d,⟨f,_,rfl,i,⟨j,_,rfl,k,⟨l,rfl,o⟩⟩⟩⟩:=hT
 obtain rfl:c=_:=d
 obtain rfl:f=_:=i
 obtain rfl:j=_:=k
 obtain rfl:l=_:=o
 exact (zGv hw b x.1 x.2.1 x.2.2.1 x.2.2.2 h).mono (fun _ v K0=>⟨[v],rfl,v,rfl,K0⟩)
theorem c320:FE.ok (U:=UU) Tryz.prog ⟨320,[.str,.str],[(.sl .str)],fun x=>zD0 x.1 x.2⟩:=mk (fcons c338 anil) (.e) Tryz.func320
theorem c287:FE.ok (U:=UU) Tryz.prog ⟨287,[.str],[.boo],fun x=>zCC x⟩:=mk (fcons c321 (fcons c320 anil)) (.n .e (.n (.n .e (.lp ⟨[⟨.sl 8,.int,none⟩],some [],[]⟩ (some ⟨[],some [],[]⟩) true .e)) .e)) Tryz.func287
theorem zJI {b : World} {d : Hp} (hw : Holds b d) (hG : Tryz.Gl b) (c : Str) {r : Bool} (h : zCC c = some r) :
    Cb Tryz.prog 287 [(str c)] b d r:=by
  refine (c287 (xs:=(c)) (y:=r) hw (fun _ _ e=>by cases e) hG ⟨_,rfl,rfl⟩ h).mono ?_
  rintro _ v ⟨_,rfl,D⟩
  obtain ⟨f,rfl,i⟩:=D
  obtain rfl:f=_:=i
  exact rfl
end Go.Proofs
namespace Go.Proofs
open Go.Eng Go.Eng.Pure
set_option linter.unusedVariables false
theorem zFx {c : World} {d : Hp} (hw : Holds c d) (hG : Tryz.Gl c) (f : Unit) (b : Str) {r : (Str × Bool)} (h : zB5 f b = some r) :
    Con Tryz.prog 374 [(agg []),(str b)] c d (fun H' v=>v=(.tuple ⟨[(str r.1),(boo r.2)]⟩)):=by
  refine CM 10 Tryz.func374 hw fun S=>?_
  refine Ws<|Wg ?_
  refine W.box [] S rfl rfl ?_
  intro k l S
  refine A<|A<|We<|Ws<|Wg<|M<|B h fun o i h=>W.call S rfl (zA5 S.holds (hG.post S.post) b i) ?_
  rintro p t u x S rfl
  refine M<|B h fun z j h=>W.call S rfl (zJI S.holds (hG.post S.post) b j) ?_
  rintro v9 ab ac ad S rfl
  refine A<|A<|We ?_
  obtain rfl:=oi h
  refine WP.ret (Out.two rfl S rfl rfl ?_)
  exact rfl
end Go.Proofs
namespace Go.Proofs
open Go Go.Eng Go.VI Go.Eng.Pure
set_option linter.unusedVariables false
set_option maxRecDepth 10000
set_option maxHeartbeats 4000000
theorem c242:FE.ok (U:=UU) Tryz.prog ⟨242,[.int,.str],[.str],fun x=>zAo x.1 x.2⟩:=mk (fcons c25 anil) (.n .e (.n .e (.n .e (.n (.n .e (.j ⟨[],some [],[]⟩ true (.n (.n (.n .e (.j ⟨[⟨.sl 11,.boo,none⟩],some [],[]⟩ false .e)) (.n .e (.n (.n .e (.j ⟨[⟨.sl 14,.boo,none⟩],some [],[]⟩ false .e)) .e))) .e))) .e)))) Tryz.func242
theorem c375:FE.ok (U:=UU) Tryz.prog ⟨375,[.int,.str],[.str,.boo],fun x=>zBL x.1 x.2⟩:=mk (fcons c242 (fcons c24 anil)) (.e) Tryz.func375
theorem zFj {b : World} {f : Hp} (hw : Holds b f) (hG : Tryz.Gl b) (c : Int) (d : Str) {r : (Str × Bool)} (h : zBL c d = some r) :
    Con Tryz.prog 375 [(int c),(str d)] b f (fun H' v=>v=(.tuple ⟨[(str r.1),(boo r.2)]⟩)):=by
  refine (c375 (xs:=(c,d)) (y:=r) hw (fun _ _ e=>by cases e) hG ⟨_,_,rfl,rfl,⟨_,rfl,rfl⟩⟩ h).mono ?_
  rintro _ v ⟨_,rfl,D⟩
  obtain ⟨i,_,rfl,j,⟨k,rfl,l⟩⟩:=D
  obtain rfl:i=_:=j
  obtain rfl:k=_:=l
  exact rfl
theorem zKe {b : World} {d : Hp} (hw : Holds b d) (hG : Tryz.Gl b) (c : Str) {r : Bool} (h : zCv c = some r) :
    Cb Tryz.prog 200 [(str c)] b d r:=by
  refine (c200 (xs:=(c)) (y:=r) hw (fun _ _ e=>by cases e) hG ⟨_,rfl,rfl⟩ h).mono ?_
  rintro _ v ⟨_,rfl,D⟩
  obtain ⟨f,rfl,i⟩:=D
  obtain rfl:f=_:=i
  exact rfl
theorem zKW {b : World} {d : Hp} (hw : Holds b d) (hG : Tryz.Gl b) (c : Str) {r : Str} (h : zB2 c = some r) :
    Cs Tryz.prog 174 [(str c)] b d r:=by
  refine (c174 (xs:=(c)) (y:=r) hw (fun _ _ e=>by cases e) hG ⟨_,rfl,rfl⟩ h).mono ?_
  rintro _ v ⟨_,rfl,D⟩
  obtain ⟨f,rfl,i⟩:=D
  obtain rfl:f=_:=i
  exact rfl
end Go.Proofs
namespace Go.Proofs
open Go.Eng Go.Eng.Pure
set_option linter.unusedVariables false
theorem zFi {l : World} {k : Hp} (hw : Holds l k) (hG : Tryz.Gl l) (u : Unit) (c : Str) {r : (Str × Bool)} (h : zBq u c = some r) :
    Con Tryz.prog 376 [(agg []),(str c)] l k (fun H' v=>v=(.tuple ⟨[(str r.1),(boo r.2)]⟩)):=by
  refine CM 25 Tryz.func376 hw fun S=>?_
  refine Ws<|Wg ?_
  refine W.box [] S rfl rfl ?_
  intro o w2 S
  refine A<|A<|We<|Ws<|Wg<|M<|M<|Ns<|Ld<|M ?_
  refine WL.grp 4 [11,12,13] 14 (boo ((decide (1≤(c.length:Int)))&&(decide ((c.length:Int)≤100)))) ?_ ?_
  · rcases boolE (decide (1≤(c.length:Int))) with d | d
    · refine WL.y rfl rfl d<|WL.m (str c) rfl<|WL.y rfl rfl d<|WL.w (R.lenS (a:=c) rfl Tryz.underlying9)<|WL.y rfl rfl d<|WL.w (R.leq rfl rfl)<|WL.w (R.pickT rfl d rfl) ?_
      exact We ⟨(andT d),ag,rfl⟩
     refine WL.n rfl rfl d<|WL.n rfl rfl d<|WL.n rfl rfl d<|WL.w (R.pickF rfl d rfl) ?_
     exact We ⟨(andF d),ag,rfl⟩
   intro us
   refine M<|B h fun p i h=>WL.grpw 3 [16,17] 18 (boo p) (fun w=>∃ H':Hp,k.le H'∧St l k w H' [.box o 176 []]) ?_ ?_
   · rcases boolE ((decide (1≤(c.length:Int)))&&(decide ((c.length:Int)≤100))) with f | f
     · replace i:=condT i f
       refine Gy f<|M<|Gy f<|B i fun r7 x i=>W.call S rfl (zKe S.holds (hG.post S.post) c x) ?_
       rintro v8 w9 z aa S rfl
       refine Pt f ?_
       exact We ⟨(ob i),ag,⟨z,aa,S⟩⟩
      replace i:=condF i f
      refine Gn f<|Gn f<|Pf f ?_
      exact We ⟨(ob i),ag,⟨k,lr,S⟩⟩
    intro us ak ⟨t,al,S⟩
    refine M<|B h fun ab j h=>WL.grpw 5 [20,21,22,23] 24 (boo ab) (fun w=>∃ H':Hp,t.le H'∧St l k w H' [.box o 176 []]) ?_ ?_
    · rcases boolE p with b | b
      · replace j:=condT j b
        refine Gy b<|M<|Gy b<|B j fun am ac j=>W.call S rfl (zKW S.holds (hG.post S.post) c ac) ?_
        rintro an ao ad ae S rfl
        refine Gy b<|M<|Gy b<|Na<|Pt b ?_
        exact We ⟨(ob j),ag,⟨ad,ae,S⟩⟩
       replace j:=condF j b
       refine Gn b<|Gn b<|Gn b<|Gn b<|Pf b ?_
       exact We ⟨(ob j),ag,⟨t,lr,S⟩⟩
     intro us ap ⟨aq,au,S⟩
     refine A<|A<|We ?_
     obtain rfl:=oi h
     refine WP.ret (Out.two rfl S rfl rfl ?_)
     exact rfl
theorem zBs {b : World} {c : Hp} (hw : Holds b c) (hG : Tryz.Gl b) (x : Gvariants_domain) (p0 : Str) {r : (Str × Bool)} (h : zBE x p0 = some r) :
    ConI Tryz.prog "variantproxy/variants.form" (Tryz.vvariants_domain x) [(str p0)] b c (fun H' v=>v=(.tuple ⟨[(str r.1),(boo r.2)]⟩)):=by
  cases x with
  | media=>exact ConI.mk (fun w=>by kernel_rfl) (zFh hw hG () p0 h)
  | tags=>exact ConI.mk (fun w=>by kernel_rfl) (zFx hw hG () p0 h)
  | words n=>exact ConI.mk (fun w=>by kernel_rfl) (zFj hw hG n p0 h)
  | texts=>exact ConI.mk (fun w=>by kernel_rfl) (zFi hw hG () p0 h)
theorem zFe {b : World} {i : Hp} (hw : Holds b i) (hG : Tryz.Gl b) (c : Str) (d : Str) (f : Str) {r : Bool} (h : zDF c d f = some r) :
    Cb Tryz.prog 93 [(str c),(str d),(str f)] b i r:=by
  refine CM 29 Tryz.func93 hw fun S=>?_
  refine Ws<|Wg<|A<|We<|Ws<|Wg<|M<|B h fun j k h=>W.call S rfl (zDw S.holds (hG.post S.post) c k) ?_
  rintro p t u v S rfl
  refine A<|We<|Ws<|Wg<|M<|M<|B h fun x l h=>W.invoke S rfl rfl (zBs S.holds (hG.post S.post) j d l) ?_
  rintro z w8 H9 ac S rfl
  refine M ?_
  refine Ex ?_
  refine Ex<|A<|A<|We<|Ws<|Wg<|M<|M<|B h fun ad o h=>W.invoke S rfl rfl (zBs S.holds (hG.post S.post) j f o) ?_
  rintro ae af ah ai S rfl
  refine M ?_
  refine Ex ?_
  refine Ex<|A<|A<|We<|Ws<|Wg<|M<|M<|Na<|A ?_
  refine We ?_
  exact WP.ret (Rb h S)
theorem zFQ {d : World} {b : Hp} (hw : Holds d b) (hG : Tryz.Gl d) (f : Str) (c : GAxis) (k : (List Str)) (i : Int) {l : Value} {j : Value} {o : Addr} {p : Addr} {t : Addr} (x : At b o [(str c.fName), l]) (ai : Sl b l c.fValues) (z : At b p [j]) (aa : Sl b j k) (ab : At b t [(int i)]) {r : Bool} (h : zCZ f c k i = some r) :
    Cb Tryz.prog 281 [(str f),(.pointer (some o)),(.pointer (some p)),(.pointer (some t))] d b r:=by
  refine CM 14 Tryz.func281 hw fun S=>?_
  refine Ws<|Wg<|A<|We<|Ws<|WP.quiet S kr kr<|QFc ?_
  have ac:=At.add x 0 (by simp)
  refine QH (str c.fName) ac<|QM ?_
  refine QH j z ?_
  refine QH (int i) ab<|B h fun u ad h=>WQ.idx (α:=Str) aa rfl rfl el36 ad ?_
  rintro a6 _ ae rfl
  refine QH (str u) ae<|B h fun r8 ah h=>WQ.call (v:=boo r8) rfl (fun w H' hq S=>zFe S.holds (hG.post S.post) c.fName f u ah)<|QA<|WQ.nil ?_
  intro w1 H2 am S
  exact WP.ret (Rb h S)
theorem zFp {w0 : World} {k : Hp} (hw : Holds w0 k) (hG : Tryz.Gl w0) (ai : (List GAxis)) (ab : (List Str)) {al : Value} {ac : Value} (d : Sl k al ai) (c : Sl k ac ab) {r : ((List Str) × Bool)} (h : zEa ai ab = some r) :
    Con Tryz.prog 228 [al,ac] w0 k (fun H' v=>∃ u1:Value,v=(.tuple ⟨[u1,(boo r.2)]⟩)∧Sl H' u1 r.1):=by
  refine CM 41 Tryz.func228 hw fun S=>?_
  refine Ws<|Wg ?_
  refine W.box [ac] S rfl (congrArg Array.toList (Sl.cellsOne c)) ?_
  intro b1 w2 S
  refine A<|A<|We<|Ws<|Ws<|Wg ?_
  refine Lo 0 S<|Nq c<|M<|Nq d<|Lf<|We ?_
  rcases condE h with ⟨aw,h⟩ | ⟨aw,h⟩
  · refine WP.condT rfl aw<|WP.s<|WP.g<|WL.a (.slice none 0 0) rfl<|WL.a (boo false) rfl<|WL.e ?_
    obtain rfl:=oi h
    refine WP.ret (Out.two rfl S rfl rfl ?_)
    exact ⟨_,rfl,Sl.nil⟩
   refine WP.condF rfl aw<|WP.skip<|WP.s<|WP.g<|WL.w (R.loadB (i:=0) (v:=ac) S rfl rfl lay36 rfl)<|WL.w (R.lenL (α:=Str) (xs:=ab) (H:=k) c rfl Tryz.underlying36) ?_
   refine B h fun l4 bq h=>W.makeSlice (α:=Str) (zv:=(str [])) (z:=[]) S el36 rfl rfl rfl zer9 rfl bq ?_
   intro o w6 bc p br ax S
   refine A<|We<|Ws<|Ws<|Wg<|M<|Nq d<|M<|We ?_
   obtain ⟨ay,bd,bs,_,S⟩:=S.settle (i:=1) rfl
   replace S:St w0 k _ ay [.box o 9 bc]:=S
   have j:At ay ⟨b1,0,none⟩ [ac]:=⟨_,_,rfl,bs,[],by simp⟩
   have ⟨d,c⟩:=U2 bd d c
   have ax:=Ms.mono ax bd
   refine B h fun az bt h=>WP.cut (fun f w=>match az with | .inl an=>∃ (a0:Hp) (ao:List Value),f 6=(.slice (some ⟨o,0,none⟩) p p)∧Ms a0 ao an∧an.length=p∧St w0 k w a0 [.box o 9 ao] | .inr _=>False) ?_ ?_
   · refine WP.block ?_
     refine WP.loopM (zDo ai ab) (fun s f w=>match s with | (t,ap)=>∃ (ad:Hp) (af:List Value),f 3=(.pointer (some ⟨b1,0,none⟩))∧f 6=(.slice (some ⟨o,0,none⟩) p p)∧f 18=al∧f 19=(int (ai.length:Int))∧f 20=(int t)∧At ad ⟨b1,0,none⟩ [ac]∧Sl ad ac ab∧Sl ad al ai∧Ms ad af ap∧ap.length=p∧St w0 k w ad [.box o 9 af]) (0,l4) az bt ?_ ?_
     · exact ⟨ay,bc,rfl,rfl,rfl,rfl,rfl,j,c,d,ax,br,S⟩
      intro s f w hI cj b be
      obtain ⟨t,ap⟩:=s
      obtain ⟨ad,af,bf,a1,bg,bh,aq,j,c,d,u,a2,S⟩:=hI
      refine Ws<|Wg<|La' aq bh<|We<|Ws ?_
      rcases condE b with ⟨a3,b⟩ | ⟨a3,b⟩
      · refine WP.condT rfl a3<|WP.skip<|WP.s<|WP.block<|WP.s<|WP.g<|WL.m (int t) aq ?_
        refine B b fun ae bu b=>W.idx (α:=GAxis) d bg aq el22 bu ?_
        rintro ck _ bv ⟨aj,rfl,x⟩
        refine WL.w (R.loadHN (vs:=[(str ae.fName),aj]) S rfl bv lay62 rfl rfl) ?_
        refine W.alloc [(int 0)] S zer3 ?_
        intro a4 cl S
        refine W.alloc [(str []),(.slice none 0 0)] S zer62 ?_
        intro bi cm S
        refine W.store (i:=1) [(int t)] S rfl rfl rfl lay3 rfl rfl (Nat.le_of_ble_eq_true rfl) rfl ?_
        intro cn S
        refine W.store (i:=0) [(str ae.fName),aj] S rfl rfl rfl lay62 rfl (AllOne.all (l:=[(str ae.fName),aj]) (.cons rfl (.cons (Sl.oneC x) .nil))) (Nat.le_of_ble_eq_true rfl) rfl ?_
        intro co S
        refine We<|Ws<|Wg<|Fb ?_
        refine Lo 0 S ?_
        obtain ⟨bj,a5,bw,_,S⟩:=S.settle (i:=0) rfl
        replace S:St w0 k _ bj [.box a4 3 [(int t)],.box o 9 af]:=S
        have ah:At bj ⟨bi,0,none⟩ [(str ae.fName),aj]:=⟨_,_,rfl,bw,[],by simp⟩
        have j:=At.mono j a5 (by simp)
        have ⟨c,d,x⟩:=U3 a5 c d x
        have u:=Ms.mono u a5
        obtain ⟨bn,au,bx,_,S⟩:=S.settle (i:=0) rfl
        replace S:St w0 k _ bn [.box o 9 af]:=S
        have av:At bn ⟨a4,0,none⟩ [(int t)]:=⟨_,_,rfl,bx,[],by simp⟩
        have j:=At.mono j au (by simp)
        have ⟨c,d,x⟩:=U3 au c d x
        have ah:=At.mono ah au (by simp)
        have u:=Ms.mono u au
        refine WL.w (R.mkFunc (vs:=[(.pointer (some ⟨bi,0,none⟩)),(.pointer (some ⟨b1,0,none⟩)),(.pointer (some ⟨a4,0,none⟩))]) (mapC rfl (mapC bf (mapC rfl mapN))))<|B b fun cp bz b=>W.call S rfl (zBZ S.holds (hG.post S.post) ae.fValues (fun x0=>zCZ x0 ae ab t) x (fun hle hw hG x0 r h=>zFQ hw hG x0 ae ab t (At.mono ah hle (by simp)) (x.up hle) (At.mono j hle (by simp)) (c.up hle) (At.mono av hle (by simp)) h) bz) ?_
        rintro cq cr cs ak S rfl
        have j:=At.mono j ak (by simp)
        have ⟨c,d,x⟩:=U3 ak c d x
        have av:=At.mono av ak (by simp)
        have ah:=At.mono ah ak (by simp)
        have u:=Ms.mono u ak
        refine A<|We<|Ws<|Ws<|Wg<|M<|La<|We ?_
        rcases condE b with ⟨a7,b⟩ | ⟨a7,b⟩
        · refine WP.condT rfl a7<|WP.s<|WP.g<|WL.a (.slice none 0 0) rfl<|WL.a (boo false) rfl<|WL.e ?_
          obtain rfl:=oi b
          obtain rfl:=be
          obtain rfl:=oi h
          refine WP.ret (Out.two rfl S rfl rfl ?_)
          exact ⟨_,rfl,Sl.nil⟩
         refine WP.condF rfl a7<|WP.skip<|WP.quietTail 8 S kr kr<|WQ.val (fun _ _=>(R.mv (v:=.slice (some ⟨o,0,none⟩) p p) a1))<|QH (int t) av<|WQ.val (fun _ _=>(R.field rfl zL3)) ?_
         have b0:=At.add ah 1 (by simp)
         refine QH aj b0<|QM<|B b fun b2 b3 b=>WQ.idx (α:=Str) x rfl rfl el36 b3 ?_
         rintro ct _ b4 rfl
         refine QH (str b2) b4<|B b fun cu b6 b=>?_
         refine WQ.val (fun _ _=>(R.idxM (α:=Str) (xs:=ap) rfl a2 rfl el36 b6))<|WQ.nil ?_
         intro cv b7 a8 S
         have j:=At.mono j a8 (by simp)
         have ⟨c,d⟩:=U2 a8 c d
         have u:=Ms.mono u a8
         refine B b fun cw bo b=>?_
         refine W.storeM (α:=Str) (i:=0) (m:=t) S u rfl rfl rfl lay9 rfl rfl bo ?_
         intro cx b8 b9 S
         have ca:=(zEf bo).1.trans a2
         refine We<|Wg<|Lg' aq rfl<|M<|We ?_
         obtain rfl:=oi b
         exact ⟨rfl,⟨b7,b8,bf,a1,bg,bh,rfl,j,c,d,b9,ca,S⟩⟩
       refine WP.condF rfl a3<|WP.exit ?_
       obtain rfl:=oi b
       obtain rfl:=be
       exact ⟨ad,af,a1,u,a2,S⟩
    intro f w hM
    rcases az with an | e
    · obtain ⟨a0,ao,cb,a9,cc,S⟩:=hM
      refine Ws<|Wg<|M' cb<|A<|A<|We ?_
      obtain ⟨ba,cd,ce,_,S⟩:=S.settle (i:=0) rfl
      replace S:St w0 k _ ba []:=S
      have cf:At ba ⟨o,0,none⟩ ao:=⟨_,_,rfl,ce,[],by simp⟩
      have a9:=Ms.mono a9 cd
      have cg:Sl ba (.slice (some ⟨o,0,none⟩) p p) an:=Ms.sl a9 cc cf
      obtain rfl:=oi h
      refine WP.ret (Out.two rfl S rfl rfl ?_)
      exact ⟨_,rfl,cg⟩
     exact hM.elim
end Go.Proofs
namespace Go.Proofs
open Go Go.Eng Go.VI Go.Eng.Pure
set_option linter.unusedVariables false
set_option maxRecDepth 10000
set_option maxHeartbeats 4000000
theorem c228:FE.ok (U:=UU) Tryz.prog ⟨228,[(.sl (.st 62)),(.sl .str)],[(.sl .str),.boo],fun x=>zEa x.1 x.2⟩:=@fun w H az x y hw hg b hT h=>by
 obtain ⟨f,_,rfl,c,⟨i,rfl,d⟩⟩:=hT
 exact (zFp hw b x.1 x.2 c d h).mono (fun _ _ ⟨j,e,K0⟩=>⟨[_,_],e,_,_,rfl,K0,⟨_,rfl,rfl⟩⟩)
end Go.Proofs
namespace Go.Proofs
open Go.Eng Go.Eng.Pure
set_option linter.unusedVariables false
theorem zer69:zer Tryz.prog 69=some [(.pointer none),(.slice none 0 0)]:=by kernel_rfl
theorem zRY:fld Tryz.prog 69 0=some 0:=by kernel_rfl
instance:Fld Tryz.prog 69 0 0:=⟨zRY⟩
theorem lay66:lay Tryz.prog 66=some (false,1):=by kernel_rfl
instance:Lay Tryz.prog 66 (false,1):=⟨lay66⟩
theorem lay69:lay Tryz.prog 69=some (true,2):=by kernel_rfl
instance:Lay Tryz.prog 69 (true,2):=⟨lay69⟩
theorem inf69:∃ i,Tryz.prog.info? 69=some i:=Option.isSome_iff_exists.1 kr
theorem ceo69:Tryz.prog.cellsOf 69=2:=by kernel_rfl
theorem zCy {f ws : World} {k Hs : Hp} {l : List Ent} (hG : Tryz.Gl f) (s0_buf : (List UInt8)) {d : Value} {c : Nat} (S : St f k ws Hs (.box c 69 [(.pointer none), d] :: .row d 5 1 s0_buf.length :: l)) (R0_1 : Sl Hs d s0_buf) {r : Unit} (h : zDh s0_buf = some r) :
    ConS Tryz.prog 47 [(ptr c 0)] f k ws Hs l (fun H' v L'=>∃ j:Value,L'=[.box c 69 [(ptr c 0),j],.row j 5 1 s0_buf.length]∧v=(.tuple #[])∧Sl H' j s0_buf):=by
  refine ConS.mk (N:=20) Tryz.func47 rfl rfl kr rfl<|Ws<|Wg<|M<|Nn<|Fb ?_
  refine Lo 0 S ?_
  refine WL.w (v:=boo true) (R.ofEq (R.eqlPN rfl rfl Tryz.underlying66) rfl)<|We<|WP.condT (b:=true) rfl rfl<|Wg<|M ?_
  refine M ?_
  refine WL.w (R.toUnsafe (i:=0) S rfl rfl Tryz.underlying66 Tryz.underlying177 lay69 (by decide) (by simp))<|W.noEscape Tryz.func94 rfl rfl kr kr rfl ?_
  refine WL.w (R.fromUnsafe (i:=0) S rfl rfl Tryz.underlying177 Tryz.underlying66 inf69 ceo69 (by simp))<|Nn<|Fb ?_
  refine W.store (i:=0) [(ptr c 0),d] S rfl rfl rfl lay66 rfl rfl (Nat.le_of_ble_eq_true rfl) rfl ?_
  intro o S
  refine We ?_
  obtain rfl:=oi h
  refine (OutS.zero (L':=[.box c 69 [(ptr c 0),d],.row d 5 1 s0_buf.length]) (.inr rfl) rfl lr S ?_)
  exact ⟨_,rfl,rfl,R0_1⟩
theorem zCp {f ws : World} {j Hs : Hp} {k : List Ent} (hG : Tryz.Gl f) (s0_buf : (List UInt8)) {d : Value} {c : Nat} (S : St f j ws Hs (.box c 69 [(ptr c 0), d] :: .row d 5 1 s0_buf.length :: k)) (R0_1 : Sl Hs d s0_buf) {r : Unit} (h : zDW s0_buf = some r) :
    ConS Tryz.prog 47 [(ptr c 0)] f j ws Hs k (fun H' v L'=>∃ i:Value,L'=[.box c 69 [(ptr c 0),i],.row i 5 1 s0_buf.length]∧v=(.tuple #[])∧Sl H' i s0_buf):=by
  refine ConS.mk (N:=20) Tryz.func47 rfl rfl kr rfl<|Ws<|Wg<|M<|Nn<|Fb ?_
  refine Lo 0 S ?_
  refine WL.w (v:=boo false) (R.ofEq (R.eqlPN rfl rfl Tryz.underlying66) rfl)<|We<|WP.condF (b:=false) rfl rfl<|Ws<|Wg ?_
  refine M<|Nn<|Fb ?_
  refine Lo 0 S<|M ?_
  refine WL.w (R.neqPS rfl rfl Tryz.underlying66 inf69)<|We<|WP.condF (b:=false) rfl rfl<|Wk ?_
  obtain rfl:=oi h
  refine (OutS.zero (L':=[.box c 69 [(ptr c 0),d],.row d 5 1 s0_buf.length]) (.inr rfl) rfl lr S ?_)
  exact ⟨_,rfl,rfl,R0_1⟩
theorem zCW {c ws : World} {o Hs : Hp} {p : List Ent} (hG : Tryz.Gl c) (s0_buf : List UInt8) {d va0 : Value} {b : Nat} (S : St c o ws Hs (.box b 69 [va0, d] :: .row d 5 1 s0_buf.length :: p)) (R0_1 : Sl Hs d s0_buf) (t : va0 = Value.pointer none ∨ va0 = ptr b 0) {r : Unit} (h : zAt s0_buf = some r) :
    ConS Tryz.prog 47 [(ptr b 0)] c o ws Hs p (fun H' v L'=>∃ f i:Value,L'=[.box b 69 [f,i],.row i 5 1 s0_buf.length]∧v=(.tuple #[])∧(f=Value.pointer none∨f=ptr b 0)∧Sl H' i s0_buf):=by
  rcases t with rfl | rfl
  · exact ConS.mono (zCy hG s0_buf S R0_1 rfl) fun H' v L' ⟨u,j,k,l⟩=>⟨_,u,j,k,.inr rfl,l⟩
   exact ConS.mono (zCp hG s0_buf S R0_1 rfl) fun H' v L' ⟨u,j,k,l⟩=>⟨_,u,j,k,.inr rfl,l⟩
theorem zFz:fld Tryz.prog 69 1=some 1:=by kernel_rfl
instance:Fld Tryz.prog 69 1 1:=⟨zFz⟩
theorem lay67:lay Tryz.prog 67=some (false,1):=by kernel_rfl
instance:Lay Tryz.prog 67 (false,1):=⟨lay67⟩
theorem zAH {c ws : World} {f Hs : Hp} {j : List Ent} (hG : Tryz.Gl c) (t : Str) (s0_buf : (List UInt8)) {d : Value} {va0 : Value} {b : Nat} (S : St c f ws Hs (.box b 69 [va0, d] :: .row d 5 1 s0_buf.length :: j)) (R0_1 : Sl Hs d s0_buf) (z : va0 = Value.pointer none ∨ va0 = ptr b 0) {r : (Int × Unit × (List UInt8))} (h : zAD t s0_buf = some r) :
    ConS Tryz.prog 27 [(ptr b 0),(str t)] c f ws Hs j (fun H' v L'=>∃ k l:Value,L'=[.box b 69 [k,l],.row l 5 1 r.2.2.length]∧v=(.tuple ⟨[(int r.1),.nilIface]⟩)∧(k=Value.pointer none∨k=ptr b 0)∧Sl H' l r.2.2):=by
  refine ConS.mk (N:=19) Tryz.func27 rfl rfl kr rfl<|Ws<|Wg<|A<|A<|We<|Ws<|Wg<|M ?_
  replace S:=S.front 1 rfl
  replace S:=S.front 1 rfl
  replace S:St c f _ Hs (.box b 69 [va0,d] :: .row d 5 1 s0_buf.length :: j):=S
  refine B h fun r1 aa h=>W.callS rfl (zCW hG s0_buf S R0_1 z aa) ?_
  rintro v2 w3 H4 L6 ac S ⟨o,u,rfl,rfl,ad,ae⟩
  replace S:St c f _ H4 (.box b 69 [o,u] :: .row u 5 1 s0_buf.length :: j):=S
  refine We<|Ws<|Wg<|M<|M<|Nn<|Fb ?_
  refine Lo 0 S<|M<|B h fun af ah h=>W.appStr (i:=1) S el67 Tryz.underlying9 rfl rfl rfl ae ah ?_
  intro p an ao ai x S
  refine Nn<|Fb ?_
  refine W.storeSl (α:=UInt8) (i:=0) [o,p] S x rfl rfl rfl lay67 (Nat.le_of_ble_eq_true rfl) rfl ?_
  intro ap S
  refine We<|Ws<|Wg<|M<|Ns<|A<|A<|We ?_
  obtain rfl:=oi h
  refine WP.ret (OutS.two (L':=[.box b 69 [o,p],.row p 5 1 af.length]) rfl (ac.trans ai) S rfl rfl ?_)
  exact ⟨_,_,rfl,rfl,ad,x⟩
end Go.Proofs
