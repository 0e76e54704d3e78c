/- A part. -/
import Derived.Test.YtihjhdoinmfddaaGreatDoorGenN2
set_option linter.unusedVariables false
set_option linter.unusedSimpArgs false
set_option maxHeartbeats 4000000
set_option maxRecDepth 10000
namespace Go.Proofs
open Go Go.Eng Go.VI Go.Eng.Pure
theorem c89:FK ⟨89,[(.sl (.st 138))],[(.sl (.st 138))],fun x=>zFZ x⟩:=@fun w H az x y hw hg b hT h=>by
 obtain ⟨d,rfl,c⟩:=hT;exact (zOH hw ⟨b.gl,b,hg⟩ x c h).mono (fun _ v K0=>⟨[v],rfl,v,rfl,K0⟩)
theorem c70:FK ⟨70,[(.sl (.st 138)),.str],[.boo],fun x=>zAv x.1 x.2⟩:=mk (wc w131 (wc w132 (wc w195 (fcons c149 anil)))) (.e) Tryz.func70
theorem c45:FK ⟨45,[(.st 63)],[.boo],fun x=>zCG x⟩:=mk (fcons c70 anil) (.e) Tryz.func45
theorem c49:FK ⟨49,[(.sl (.st 138)),.str],[.str,.boo],fun x=>zAt x.1 x.2⟩:=mk (fcons c96 anil) (.e) Tryz.func49
theorem c142:FK ⟨142,[(.sl (.st 138)),(.sl (.st 138))],[(.sl (.st 138))],fun x=>zGo x.1 x.2⟩:=mk (fcons c120 anil) (.n .e (.n (.n .e (.n .e (.n (.n .e (.lp ⟨[iR 5 (.sl (.st 138)) 138,iS 12 .int],some [],[]⟩ (some ⟨[iR 5 (.sl (.st 138)) 138],some [],[]⟩) false (.n .e (.n .e (.n (.n (.n .e (.n (.n .e (.lp ⟨[iS 18 .int],some [.sl 5],[]⟩ (some ⟨[],some [.sl 5],[]⟩) true .e)) .e)) .e) .e))))) .e))) .e)) Tryz.func142
end Go.Proofs
namespace Go.Proofs
open Go.Eng Go.Eng.Pure
theorem zJG {j:World} {i:Hp} (hw:Holds j i) (hG:GlX j i) (c:GField) (f:Str) {k:Addr} (l:At i k [(str f)]) {r:Bool} (h:zBR c f=some r) :
  Cb Tryz.prog 195 [(agg [(str c.fName),(str c.fValue)]),(Value.pointer (some k))] j i r:=by
 refine CM 17 Tryz.func195 hw fun S=>?_
 refine Ws<|Wg ?_;refine W.box [(str c.fName),(str c.fValue)] S rfl rfl ?_;intro u x S;refine A<|We<|Ws<|WP.quiet S kr kr<|QFb ?_;refine QB 0 (str c.fName)<|QNs ?_;refine QH (str f) l<|QNs<|QLe<|QM<|B h fun o d h=>WQ.grp 6 [11,12,13,14,15] 16 (boo o) ?_ ?_
 ·rcases boolE ((c.fName.length:Int)==(f.length:Int)) with b | b
  ·replace d:=condT d b
   refine QGy b<|QFb<|QGy b ?_;refine QB 0 (str c.fName)<|QGy b<|B d fun p t d=>WQ.call (v:=str p) rfl (fun w H' hq S=>zBJ S.holds (hG.pstX S.post) c.fName t)<|QGy b ?_
   refine QH (str f) l<|QGy b<|QNa<|QPt b ?_;exact WQ.nil ⟨(ob d),ag⟩
  replace d:=condF d b;refine QGn b<|QGn b<|QGn b<|QGn b<|QGn b<|QPf b ?_;exact WQ.nil ⟨(ob d),ag⟩
 intro us;refine QA<|WQ.nil ?_;intro z H4 ab S;exact WP.ret (Rb h S)
theorem zGv {d:World} {f:Hp} (hw:Holds d f) (hG:GlX d f) (j:Str) {r:(GField→Option Bool)} (h:zGZ j=some r) :
  Con Tryz.prog 132 [(str j)] d f (fun H' v=>∃ (k:FuncId) (c:List Value),v=.func (.func k) #[] c.toArray∧∀ {w:World} {H:Hp},H'.le H→Holds w H→GlX w H→∀ (b:GField) (rr:Bool),r b=some rr→Con Tryz.prog k ([(agg [(str b.fName),(str b.fValue)])]++c) w H (fun H' v=>v=(boo rr))):=by
 refine CM 6 Tryz.func132 hw fun S=>?_
 refine Ws<|Wg ?_;refine W.box [(str j)] S rfl rfl ?_;intro l z S;refine A<|We<|Ws<|Wg ?_;refine Lo 0 S<|B h fun o t h=>W.call S rfl (zBJ S.holds (hG.pstX S.post) j t) ?_
 rintro v4 w5 H6 ad S rfl;refine W.store (i:=0) [(str o)] S rfl rfl rfl lay9 rfl rfl (nL kr) rfl ?_;intro w8 S;refine We<|Ws<|Wg ?_;obtain ⟨p,af,u,_,S⟩:=S.settle (i:=0) rfl;replace S:St d f _ p []:=S;have x:At p ⟨l,0,none⟩ [(str o)]:=⟨_,_,rfl,u,[],by simp⟩;refine WL.wz (R.mkFunc (vs:=[(Value.pointer (some ⟨l,0,none⟩))]) rfl)<|A<|We ?_;obtain rfl:=oi h;refine WP.ret (Out.one rfl S rfl ?_);exact ⟨_,[(Value.pointer (some ⟨l,0,none⟩))],rfl,fun hle hw hG b r h=>zJG hw hG b o (At.mono x hle (by simp)) h⟩
theorem zWo:zer Tryz.prog 217=some [.nilFunc]:=kr
theorem zUt:lay Tryz.prog 217=some (false,1):=kr
instance:Lay Tryz.prog 217 (false,1):=⟨zUt⟩
theorem zJe {o:World} {k:Hp} (hw:Holds o k) (hG:GlX o k) (p:(List GField)) (aa:(GField→Option Bool)) {u:Value} {kp_keep:FuncId} {cp_keep:List Value} (c:Sl k u p) (Fp_keep:∀ {w:World} {H:Hp},k.le H→Holds w H→GlX w H→∀ (x0:GField) (rr:Bool),aa x0=some rr→Con Tryz.prog kp_keep ([(agg [(str x0.fName),(str x0.fValue)])]++cp_keep) w H (fun H' v=>v=(boo rr))) {r:(List GField)} (h:zBl p aa=some r) :
  Con Tryz.prog 131 [u,(.func (.func kp_keep) #[] cp_keep.toArray)] o k (fun H' v=>Sl H' v r):=by
 refine CM 23 Tryz.func131 hw fun S=>?_
 refine Ws<|Wg<|A<|We<|Ws<|Wg<|A<|We<|Ws<|Ws<|Wg<|M ?_;refine Nq c<|M<|We ?_;have S:=S.addNil 138 2;refine B h fun ac an h=>WP.cut (fun f w=>∃ (ad:Hp) (x:Value),f 5=x∧Sl ad x ac∧St o k w ad [.row x 138 2 ac.length]) ?_ ?_
 ·refine Wb ?_
  refine WP.loopM (zBS p aa) (fun s f w=>match s with | (ae,am)=>∃ (t:Hp) (l:Value),f 1=(.func (.func kp_keep) #[] cp_keep.toArray)∧f 5=l∧f 8=u∧f 9=(int (p.length:Int))∧f 10=(int am)∧Sl t l ae∧Sl t u p∧St o k w t [.row l 138 2 ae.length]) (([]:List GField),0) ac an ?_ ?_
  ·exact ⟨k,.slice none 0 0,rfl,rfl,rfl,rfl,rfl,Sl.nil,c,S⟩
  intro s f w hI a6 b ao;obtain ⟨ae,am⟩:=s;obtain ⟨t,l,h2,h6,h7,h8,z,j,c,S⟩:=hI;refine Ws<|Wg<|La' z h8<|We<|Ws ?_;rcases condE b with ⟨ak,b⟩ | ⟨ak,b⟩
  ·refine CT ak<|Wk<|Ws<|Wb<|Ws<|Wg<|B b fun d ap b=>W.idx (α:=GField) c h7 z el61 ap ?_
   rintro a7 _ aq rfl;refine WL.wz (R.loadHN (vs:=[(str d.fName),(str d.fValue)]) S rfl aq zGn rfl rfl) ?_;refine W.alloc [(str []),(str [])] S zRB ?_;intro a8 a9 S;refine W.store (i:=0) [(str d.fName),(str d.fValue)] S rfl rfl rfl zGn rfl rfl (nL kr) rfl ?_;intro ba S;refine We<|Ws<|Wg<|M' h2 ?_;refine WL.wz (R.loadBN (i:=0) (vs:=[(str d.fName),(str d.fValue)]) S rfl rfl zGn rfl rfl)<|B b fun bb au b=>W.callv S rfl rfl (Fp_keep (S.post.le) S.holds (hG.pstX S.post) d _ au) ?_
   rintro bc bd av aw S rfl;have ⟨j,c⟩:=U2 aw j c;refine We ?_;rcases condE b with ⟨al,b⟩ | ⟨al,b⟩
   ·refine CT al<|Wg<|M' h6 ?_
    refine WL.wz (R.loadBN (i:=0) (vs:=[(str d.fName),(str d.fValue)]) S rfl rfl zGn rfl rfl)<|W.bslice (α:=GField) [(agg [(str d.fName),(str d.fValue)])] ([d]:List GField) S el61 rfl rfl rfl (by decide) (Go.Eng.encS ⟨rfl,rfl⟩ enc0) ?_;intro be bf bg ax ay S;have ⟨j,c⟩:=U2 ax j c;refine B b fun bh az b=>W.app (α:=GField) (i:=2) S el61 rfl rfl rfl j ay az ?_
    intro a0 bi a1 a2 a3 S;have ⟨j,c⟩:=U2 a2 j c;refine A<|We<|Wg<|Lg' z rfl<|M<|We ?_;obtain rfl:=oi b;exact ⟨rfl,⟨a1,a0,h2,rfl,h7,h8,rfl,a3,c,(S.pk [2])⟩⟩
   refine CF al<|Wk<|Wg<|Lg' z rfl<|M<|We ?_;obtain rfl:=oi b;exact ⟨rfl,⟨av,l,h2,h6,h7,h8,rfl,j,c,(S.pk [1])⟩⟩
  refine CF ak<|Wx ?_;obtain rfl:=oi b;obtain rfl:=ao;exact ⟨t,l,h6,j,S⟩
 rintro f w ⟨ad,x,a4,a5,S⟩;refine Ws<|Wg<|M' a4<|A<|We ?_;exact WP.ret (Rl h S a5)
theorem zFR {d:World} {c:Hp} (hw:Holds d c) (hG:GlX d c) (b:GField) (j:(GField→Option Bool)) {k:Addr} {kc_x0:FuncId} {cc_x0:List Value} (l:At c k [(.func (.func kc_x0) #[] cc_x0.toArray)]) (Fc_x0:∀ {w:World} {H:Hp},c.le H→Holds w H→GlX w H→∀ (f:GField) (rr:Bool),j f=some rr→Con Tryz.prog kc_x0 ([(agg [(str f.fName),(str f.fValue)])]++cc_x0) w H (fun H' v=>v=(boo rr))) {r:Bool} (h:zCJ b j=some r) :
  Cb Tryz.prog 192 [(agg [(str b.fName),(str b.fValue)]),(Value.pointer (some k))] d c r:=by
 refine CM 8 Tryz.func192 hw fun S=>?_
 refine Ws<|Wg ?_;refine W.box [(str b.fName),(str b.fValue)] S rfl rfl ?_;intro p t S;refine A<|We<|Ws<|Wg ?_;refine Lq S l ?_;refine WL.wz (R.loadBN (i:=0) (vs:=[(str b.fName),(str b.fValue)]) S rfl rfl zGn rfl rfl)<|B h fun u o h=>W.callv S rfl rfl (Fc_x0 (S.post.le) S.holds (hG.pstX S.post) b _ o) ?_
 rintro x z H6 ab S rfl;refine No<|A<|We ?_;exact WP.ret (Rb h S)
theorem zJW {d:World} {b:Hp} (hw:Holds d b) (hG:GlX d b) (f:(List GField)) (j:Str) {l:Value} (c:Sl b l f) {r:(List GField)} (h:zAs f j=some r) :
  Con Tryz.prog 128 [l,(str j)] d b (fun H' v=>Sl H' v r):=by
 refine CM 11 Tryz.func128 hw fun S=>?_
 refine Ws<|Wg<|A<|We<|Ws<|Wg<|M<|B h fun o x h=>W.call S rfl (zGv S.holds (hG.pstX S.post) j x) ?_
 rintro v2 w3 H4 z S ⟨kr1,cr1,rfl,Fr1⟩;have c:=c.up z;refine W.alloc [.nilFunc] S zWo ?_;intro p w7 S;refine W.store (i:=0) [(.func (.func kr1) #[] cr1.toArray)] S rfl rfl rfl zUt rfl rfl (nL kr) rfl ?_;intro w8 S;refine We<|Ws<|Wg<|M ?_;obtain ⟨t,u,aa,_,S⟩:=S.settle (i:=0) rfl;replace S:St d b _ t []:=S;have ab:At t ⟨p,0,none⟩ [(.func (.func kr1) #[] cr1.toArray)]:=⟨_,_,rfl,aa,[],by simp⟩;have c:=c.up u;refine WL.wz (R.mkFunc (vs:=[(Value.pointer (some ⟨p,0,none⟩))]) rfl)<|B h fun al ac h=>W.call S rfl (zJe S.holds (hG.pstX S.post) f (fun k=>zCJ k o) c (fun hle hw hG k r h=>zFR hw hG k o (At.mono ab hle (by simp)) (fun ad=>Fr1 (Hp.le.trans (Hp.le.trans u hle) ad)) h) ac) ?_
 rintro am an ao ap S ae;refine A<|We ?_;exact WP.ret (Rl h S ae)
end Go.Proofs
namespace Go.Proofs
open Go Go.Eng Go.VI Go.Eng.Pure
theorem c128:FK ⟨128,[(.sl (.st 138)),.str],[(.sl (.st 138))],fun x=>zAs x.1 x.2⟩:=@fun w H az x y hw hg b hT h=>by
 obtain ⟨i,_,rfl,c,⟨d,rfl,f⟩⟩:=hT;obtain rfl:d=_:=f;exact (zJW hw ⟨b.gl,b,hg⟩ x.1 x.2 c h).mono (fun _ v K0=>⟨[v],rfl,v,rfl,K0⟩)
theorem c83:FK ⟨83,[(.st 87),(.st 92),.int,.int],[(.st 87)],fun x=>zFH x.1 x.2.1 x.2.2.1 x.2.2.2⟩:=mk (fcons c142 (fcons c128 (fcons c110 (fcons c89 (fcons c70 anil))))) (.n .e (.n .e (.n (.n .e (.lp ⟨[iS 9 (.sl (.st 138)),iS 18 .int],some [.sl 16],[]⟩ (some ⟨[iS 9 (.sl (.st 138))],some [],[]⟩) false .e)) (.n .e (.n (.n .e (.j ⟨[iC 12 4 (.sl (.st 138))],some [],[]⟩ false .e)) .e))))) Tryz.func83
theorem c246:FK ⟨246,[.str,.str],[.str,.boo],fun x=>zDK x.1 x.2⟩:=mk (fcons c165 anil) (.e) Tryz.func246
theorem c196:FK ⟨196,[.str,.str],[.str,.boo],fun x=>zDO x.1 x.2⟩:=mk (fcons c246 anil) (.e) Tryz.func196
theorem c134:FK ⟨134,[.str],[(.st 142),.boo],fun x=>zGB x⟩:=mk (fcons c196 (fcons c135 anil)) (.e) Tryz.func134
theorem c74:FK ⟨74,[(.sl (.st 138))],[(.st 142),.boo],fun x=>zIG x⟩:=mk (fcons c134 (fcons c49 anil)) (.e) Tryz.func74
noncomputable def w186 {l:List (GE UU)} (h:GamOk Tryz.prog (gal l)):WE Tryz.prog UU:=wJ 186 h (.n .e (.n (.n .e (.lp ⟨[iS 9 .int],some [],[]⟩ (some ⟨[],some [],[]⟩) true .e)) .e)) [.int] [] Tryz.func186
theorem c189:FK ⟨189,[.int],[.str],fun x=>zFf x⟩:=mk anil (.e) Tryz.func189
theorem c244:FK ⟨244,[.int],[.int],fun x=>zEx x⟩:=mk anil (.e) Tryz.func244
theorem c272:FK ⟨272,[.int],[.boo],fun x=>zLv x⟩:=mk anil (.e) Tryz.func272
theorem c243:FK ⟨243,[.int,.int],[.int],fun x=>zD5 x.1 x.2⟩:=mk (fcons c272 anil) (.e) Tryz.func243
theorem c188:FK ⟨188,[.int,.int,.int],[.int],fun x=>zJ3 x.1 x.2.1 x.2.2⟩:=mk (fcons c244 (fcons c243 anil)) (.n .e (.n .e (.n .e (.n (.n .e (.lp ⟨[iS 7 .int,iS 8 .int],some [],[]⟩ (some ⟨[iS 7 .int],some [],[]⟩) false .e)) .e)))) Tryz.func188
theorem c187:FK ⟨187,[.int],[.str],fun x=>zDh x⟩:=mk anil (.e) Tryz.func187
theorem c123:FK ⟨123,[.str],[.int,.boo],fun x=>zGE x⟩:=mk (wc w186 (fcons c189 (fcons c188 (fcons c187 (fcons c139 anil))))) (.n .e (.n .e (.n .e (.n (.n .e (.un 7 .e)) .e)))) Tryz.func123
theorem c76:FK ⟨76,[(.sl (.st 138)),.str],[.str,.int,.boo],fun x=>zCY x.1 x.2⟩:=mk (fcons c123 (fcons c49 anil)) (.e) Tryz.func76
theorem c73:FK ⟨73,[(.sl (.st 138)),(.sl .str)],[(.sl (.st 138))],fun x=>zBt x.1 x.2⟩:=mk (fcons c128 anil) (.n .e (.n .e (.n (.n .e (.lp ⟨[iS 5 (.sl (.st 138)),iS 12 .int],some [],[]⟩ (some ⟨[iS 5 (.sl (.st 138))],some [],[]⟩) false .e)) .e))) Tryz.func73
theorem c68:FK ⟨68,[(.st 63),.str],[(.st 63)],fun x=>zEj x.1 x.2⟩:=mk (fcons c89 (fcons c88 (fcons c73 anil))) (.e) Tryz.func68 [(1,8,[.t 0,.t 1,.t 3,.t 4,.t 5,.p 7,.pl 2,.pl 6,.r,.l 8 false,.l 9 false,.l 10 false])]
noncomputable def w206 {l:List (GE UU)} (h:GamOk Tryz.prog (gal l)):WE Tryz.prog UU:=wJ 206 h (.e) [.boo] [] Tryz.func206
theorem c207:FK ⟨207,[(.st 142)],[.boo],fun x=>zJS x⟩:=mk anil (.e) Tryz.func207
theorem c141:FK ⟨141,[(.st 142),(.st 142)],[.boo],fun x=>zIl x.1 x.2⟩:=mk (wc w206 (fcons c207 anil)) (.e) Tryz.func141
theorem c82:FK ⟨82,[(.st 87),(.st 92)],[.boo],fun x=>zE7 x.1 x.2⟩:=mk (fcons c141 (fcons c74 anil)) (.e) Tryz.func82
end Go.Proofs
namespace Go.Proofs
open Go.Eng Go.Eng.Pure
theorem zYG:zer Tryz.prog 272=some [(.pointer none),(.slice none 0 0)]:=kr
theorem zer3:zer Tryz.prog 3=some [(int 0)]:=kr
end Go.Proofs
namespace Go.Proofs
open Go Go.Eng Go.VI Go.Eng.Pure
theorem zN5 {b:World} {c:Hp} (hw:Holds b c) (hG:GlX b c) (d:Str) {r:(Str×Int×Int)} (h:zEw d=some r) :
  Con Tryz.prog 136 [(str d)] b c (fun H' v=>v=(.tuple ⟨[(str r.1),(int r.2.1),(int r.2.2)]⟩)):=by
 refine (c136 (xs:=(d)) (y:=r) hw hG.ok hG.gs ⟨_,rfl,rfl⟩ h).mono ?_;rintro _ v ⟨_,rfl,D⟩;obtain ⟨f,_,rfl,i,⟨j,_,rfl,k,⟨l,rfl,o⟩⟩⟩:=D;obtain rfl:f=_:=i;obtain rfl:j=_:=k;obtain rfl:l=_:=o;exact rfl
end Go.Proofs
namespace Go.Proofs
open Go.Eng Go.Eng.Pure
theorem zFW {d ws:World} {f Hs:Hp} {j:List Ent} (hG:GlX d f) (k:Str) (b:Int) {c:Nat} {l:Addr} (S:St d f ws Hs (.box c 3 [(int b)] :: j)) (p:At Hs l [(str k)]) {r:(Str×Int×Int)} (h:zCU k b=some r) :
  ConS Tryz.prog 202 [(Value.pointer (some l)),(ptr c 0)] d f ws Hs j (fun H' v L'=>L'=[.box c 3 [(int r.2.2)]]∧v=(.tuple ⟨[(str r.1),(int r.2.1)]⟩)):=by
 refine ConS.mk (N:=20) Tryz.func202 rfl rfl kr rfl<|Ws<|Wg<|A<|A<|We<|Ws<|Wg ?_;refine Lq S p ?_;refine Lo 0 S<|B h fun t u h=>Jc u<|B h fun o x h=>W.call S rfl (zN5 S.holds (hG.pstX S.post) t x) ?_
 rintro v3 w4 H5 z S rfl;refine M ?_;refine Ex ?_;refine Ex ?_;refine Ex<|A<|A<|A<|We<|Ws<|Wg ?_;refine Lo 0 S<|M ?_;refine Lg ?_;refine W.store (i:=0) [(int (wr (b+o.2.1)))] S rfl rfl rfl lay3 rfl rfl (nL kr) rfl ?_;intro w7 S;refine We<|Ws<|Wg<|M<|M<|A<|A<|We ?_;obtain rfl:=oi h;refine WP.ret (OutS.two (L':=[.box c 3 [(int (wr (b+o.2.1)))]]) rfl z S rfl rfl ?_);exact ⟨rfl,rfl⟩
end Go.Proofs
namespace Go.Proofs
open Go Go.Eng Go.VI Go.Eng.Pure
theorem zMq {b:World} {c:Hp} (hw:Holds b c) (hG:GlX b c) (d:Str) (f:Str) {r:(Str×Str×Bool)} (h:zAW d f=some r) :
  Con Tryz.prog 100 [(str d),(str f)] b c (fun H' v=>v=(.tuple ⟨[(str r.1),(str r.2.1),(boo r.2.2)]⟩)):=by
 refine (c100 (xs:=(d,f)) (y:=r) hw hG.ok hG.gs ⟨_,_,rfl,rfl,⟨_,rfl,rfl⟩⟩ h).mono ?_;rintro _ v ⟨_,rfl,D⟩;obtain ⟨i,_,rfl,j,⟨k,_,rfl,l,⟨o,rfl,p⟩⟩⟩:=D;obtain rfl:i=_:=j;obtain rfl:k=_:=l;obtain rfl:o=_:=p;exact rfl
end Go.Proofs
namespace Go.Proofs
open Go.Eng Go.Eng.Pure
theorem zNt {l:World} {o:Hp} (hw:Holds l o) (hG:GlX l o) (t:Str) {r:(Int×Bool)} (h:zIv t=some r) :
  Con Tryz.prog 203 [(str t)] l o (fun H' v=>v=(.tuple ⟨[(int r.1),(boo r.2)]⟩)):=by
 refine CM 47 Tryz.func203 hw fun S=>?_
 refine Ws<|Wg<|A<|A<|We<|Ws<|Wg<|M<|B h fun k ap h=>W.call S rfl (zMq S.holds (hG.pstX S.post) t [59] ap) ?_
 rintro v2 w3 H4 a7 S rfl;refine M ?_;refine Ex ?_;refine Ex ?_;refine Ex<|A<|A<|A<|We<|Ws<|Ws<|Wg<|M ?_;refine Na<|M ?_;refine WL.grp 4 [20,21,22] 23 (boo ((k.1==[])||(decide (8<(k.1.length:Int))))) ?_ ?_
 ·rcases boolE (k.1==[]) with c | c
  ·refine Gn c<|Gn c<|Gn c<|Pt c ?_
   exact We ⟨(orT c),ag,rfl⟩
  refine Gy c<|M<|Gy c<|Ns<|Gy c<|Lc<|Pf c ?_;exact We ⟨(orF c),ag,rfl⟩
 intro us;refine M<|B h fun aq j h=>WL.grpw 4 [25,26,27] 28 (boo aq) (fun w=>∃ H':Hp,H4.le H'∧St l o w H' []) ?_ ?_
 ·rcases boolE ((k.1==[])||(decide (8<(k.1.length:Int)))) with d | d
  ·replace j:=condT j d
   refine Gn d<|Gn d<|Gn d<|Pt d ?_;exact We ⟨(ob j),ag,⟨H4,lr,S⟩⟩
  replace j:=condF j d;refine Gy d<|M<|Gy d<|B j fun a8 au j=>W.call S rfl (zKE S.holds (hG.pstX S.post) k.2.1 au) ?_
  rintro a9 ba av aw S rfl;refine Gy d<|No<|Pf d ?_;exact We ⟨(ob j),ag,⟨av,aw,S⟩⟩
 intro us bb ⟨bc,bd,S⟩;refine We ?_;rcases condE h with ⟨u,h⟩ | ⟨u,h⟩
 ·refine CT u<|Ws<|Wg<|A<|A<|We ?_
  obtain rfl:=oi h;refine WP.ret (Out.two rfl S rfl rfl ?_);exact rfl
 refine CF u<|Wk<|Ws<|Wg<|A<|We<|Ws<|Ws<|Wg<|M<|B h fun p ax h=>W.call S rfl (zBJ S.holds (hG.pstX S.post) k.1 ax) ?_
 rintro be bf ay bg S rfl;refine W.bytes (s:=p) S rfl Tryz.underlying9 Tryz.underlying266 Tryz.underlying5 ?_;intro ae c26 bh bi S;refine Nv<|M<|We<|B h fun x az h=>WP.cut (fun f w=>match x with | .inl af=>∃ (ah:Hp),f 7=(int af)∧St l o w ah [] | .inr _=>False) ?_ ?_
 ·refine Wb ?_
  refine WP.loopM (zHy p) (fun s f w=>match s with | (ai,aj)=>∃ (z:Hp),f 7=(int ai)∧f 31=(.slice (some ⟨ae,0,none⟩) p.length c26)∧f 32=(int (p.length:Int))∧f 33=(int aj)∧St l o w z [.box ae 5 (p.map byt)]) (0,0) x az ?_ ?_
  ·exact ⟨ay,rfl,rfl,rfl,rfl,S⟩
  intro s f w hI bj b ak;obtain ⟨ai,aj⟩:=s;obtain ⟨z,al,am,an,aa,S⟩:=hI;refine Ws<|Wg<|La' aa an<|We<|Ws ?_;rcases condE b with ⟨ab,b⟩ | ⟨ab,b⟩
  ·refine CT ab<|Wk<|Ws<|Wb<|Ws<|Wg<|B b fun bn ao b=>?_
   have bo:=(zBx ao).2;refine WL.wz (R.idxB am aa el266 (zBx ao).2)<|B b fun a0 a1 b=>?_
   refine WL.wz (R.loadB (i:=0) S rfl rfl lay5 (zBx a1).1)<|A<|We<|Ws<|Wg<|M<|B b fun bp a2 b=>W.call S rfl (zFp S.holds [48,49,50,51,52,53,54,55,56,57,97,98,99,100,101,102] a0 a2) ?_
   rintro bq br a3 bs S rfl;refine A<|We<|Ws<|Ws<|Wg<|M<|La<|We ?_;rcases condE b with ⟨ac,b⟩ | ⟨ac,b⟩
   ·refine CT ac<|Ws<|Wg<|A<|A<|We ?_
    obtain rfl:=oi b;obtain rfl:=ak;obtain rfl:=oi h;refine WP.ret (Out.two rfl S rfl rfl ?_);exact rfl
   refine CF ac<|Wk<|Wg<|M' al<|Li<|M<|Lg<|A<|We<|Wg<|Lg' aa rfl<|M ?_;refine We ?_;obtain rfl:=oi b;exact ⟨rfl,⟨a3,rfl,am,an,rfl,S⟩⟩
  refine CF ab<|Wx ?_;obtain rfl:=oi b;obtain rfl:=ak;exact ⟨z,al,(S.pk [])⟩
 intro f w hM;rcases x with af | e
 ·obtain ⟨ah,a4,S⟩:=hM
  refine Ws<|Wg<|M' a4<|A<|A<|We ?_;obtain rfl:=oi h;refine WP.ret (Out.two rfl S rfl rfl ?_);exact rfl
 exact hM.elim
theorem zGu:fld Tryz.prog 272 1=some 1:=kr
instance:Fld Tryz.prog 272 1 1:=⟨zGu⟩
theorem zWp:lay Tryz.prog 266=some (false,1):=kr
instance:Lay Tryz.prog 266 (false,1):=⟨zWp⟩
theorem zEs {d ws:World} {f Hs:Hp} {i:List Ent} (hG:GlX d f) (s0_buf:(List UInt8)) {b:Value} {va0:Value} {c:Nat} (S:St d f ws Hs (.box c 272 [va0,b] :: .row b 5 1 s0_buf.length :: i)) (R0_1:Sl Hs b s0_buf) (j:va0=Value.pointer none∨va0=ptr c 0) {r:Int} (h:zBr s0_buf=some r) :
  ConS Tryz.prog 174 [(ptr c 0)] d f ws Hs i (fun H' v L'=>L'=[.box c 272 [va0,b],.row b 5 1 s0_buf.length]∧v=(int r)):=by
 refine ConS.mk (N:=8) Tryz.func174 rfl rfl kr rfl<|Ws<|Wg<|A<|We<|Ws<|Wg<|M<|Nn<|Fb ?_;refine Lo 0 S<|Nq R0_1 ?_;refine A<|We ?_;obtain rfl:=oi h;refine WP.ret (OutS.one (L':=[.box c 272 [va0,b],.row b 5 1 s0_buf.length]) rfl lr S rfl ?_);exact ⟨rfl,rfl⟩
end Go.Proofs
namespace Go.Proofs
open Go Go.Eng Go.VI Go.Eng.Pure
theorem c235:FK ⟨235,[(.st 138)],[.str],fun x=>zDi x⟩:=mk anil (.e) Tryz.func235
theorem c234:FK ⟨234,[(.st 138)],[.boo],fun x=>zDI x⟩:=mk (fcons c242 (fcons c235 (fcons c199 (fcons c18 anil)))) (.e) Tryz.func234
theorem c197:FK ⟨197,[.str],[(.st 138),.int],fun x=>zBv x⟩:=mk (fcons c242 (fcons c234 (fcons c199 (fcons c100 (fcons c18 anil))))) (.e) Tryz.func197
theorem zJ2 {b:World} {c:Hp} (hw:Holds b c) (hG:GlX b c) (d:Str) {r:(GField×Int)} (h:zBv d=some r) :
  Con Tryz.prog 197 [(str d)] b c (fun H' v=>v=(.tuple ⟨[(agg [(str r.1.fName),(str r.1.fValue)]),(int r.2)]⟩)):=by
 refine (c197 (xs:=(d)) (y:=r) hw hG.ok hG.gs ⟨_,rfl,rfl⟩ h).mono ?_;rintro _ v ⟨_,rfl,D⟩;obtain ⟨j,_,rfl,K0,⟨f,rfl,i⟩⟩:=D;obtain ⟨_,rfl,rfl⟩:=K0;obtain rfl:f=_:=i;exact rfl
end Go.Proofs
namespace Go.Proofs
open Go.Eng Go.Eng.Pure
theorem zEX {d ws:World} {j Hs:Hp} {o:List Ent} (hG:GlX d j) (p:Str) (s0:Int) {c:Nat} {aq0:Addr} (S:St d j ws Hs (.box c 3 [(int s0)] :: o)) (Aq0:At Hs aq0 [(str p)]) {r:(Int×Int)} (h:zA9 p s0=some r) :
  ConS Tryz.prog 204 [(.func (.func 202) #[] [(Value.pointer (some aq0)),(ptr c 0)].toArray)] d j ws Hs o (fun H' v L'=>L'=[.box c 3 [(int r.2)]]∧v=(int r.1)):=by
 refine ConS.mk (N:=33) Tryz.func204 rfl rfl kr rfl<|Ws<|Wg<|A<|We<|Ws<|Wg<|A<|We<|B h fun al am h=>WP.cut (fun _ _=>False) ?_ (fun _ _ h=>h.elim)
 refine Wb ?_;refine WP.loopM (zBO p) (fun s f w=>match s with | (ah,x)=>∃ (t:Hp),f 0=(.func (.func 202) #[] [(Value.pointer (some aq0)),(ptr c 0)].toArray)∧f 3=(int ah)∧At t aq0 [(str p)]∧Hp.le Hs t∧St d j w t (.box c 3 [(int x)] :: o)) (0,s0) al am ?_ ?_
 ·exact ⟨Hs,rfl,rfl,Aq0,lr,S⟩
 intro s f w hI y7 b z;obtain ⟨ah,x⟩:=s;obtain ⟨t,h2,h4,Aq0,u,S⟩:=hI;refine Ws<|Wb<|Ws<|Wg<|M' h2 ?_;replace S:St d j _ t (.box c 3 [(int x)] :: o):=S;refine B b fun k an b=>W.callvS rfl rfl (zFW hG p x S Aq0 an) ?_
 rintro av aw ao ax l S ⟨rfl,rfl⟩;replace S:St d j _ ao (.box c 3 [(int k.2.2)] :: o):=S;have Aq0:=At.mono Aq0 l (by simp);refine M ?_;refine Ex ?_;refine Ex<|A<|A<|We<|Ws<|Wb<|Ws<|Wg<|M<|Lf ?_;refine A<|We ?_;rcases condE b with ⟨ab,b⟩ | ⟨ab,b⟩
 ·refine CT ab<|Ws<|Wg<|M<|A<|We ?_
  obtain rfl:=oi b;obtain rfl:=z;obtain rfl:=oi h;refine WP.ret (OutS.one (L':=[.box c 3 [(int k.2.2)]]) rfl (u.trans l) S rfl ?_);exact ⟨rfl,rfl⟩
 refine CF ab<|Ws<|Wg<|M<|Na<|A<|We ?_;rcases condE b with ⟨ac,b⟩ | ⟨ac,b⟩
 ·refine CT ac<|Ws<|Wg<|A<|We ?_
  obtain rfl:=oi b;obtain rfl:=z;obtain rfl:=oi h;refine WP.ret (OutS.one (L':=[.box c 3 [(int k.2.2)]]) rfl (u.trans l) S rfl ?_);exact ⟨rfl,rfl⟩
 refine CF ac<|Ws<|Wg<|M' h4<|Le<|A<|We ?_;rcases condE b with ⟨ad,b⟩ | ⟨ad,b⟩
 ·refine CT ad<|Ws<|Wg<|A<|We ?_
  obtain rfl:=oi b;obtain rfl:=z;obtain rfl:=oi h;refine WP.ret (OutS.one (L':=[.box c 3 [(int k.2.2)]]) rfl (u.trans l) S rfl ?_);exact ⟨rfl,rfl⟩
 refine CF ad<|Wk<|Ws<|Wg<|M<|B b fun ak ap b=>W.call S rfl (zJ2 S.holds (hG.pstX S.post) k.1 ap) ?_
 rintro ay az aq ae S rfl;have Aq0:=At.mono Aq0 ae (by simp);refine M ?_;refine Ex ?_;refine Ex ?_;refine W.alloc [(str []),(str [])] S zRB ?_;intro a0 a1 S;refine W.store (i:=0) [(str ak.1.fName),(str ak.1.fValue)] S rfl rfl rfl zGn rfl rfl (nL kr) rfl ?_;intro a2 S;refine A<|We<|Ws<|Wg<|M<|Lf<|We ?_;rcases condE b with ⟨af,b⟩ | ⟨af,b⟩
 ·refine CT af<|Ws<|Wg<|M<|A<|We ?_
  obtain rfl:=oi b;obtain rfl:=z;obtain rfl:=oi h;refine WP.ret (OutS.one (L':=[.box c 3 [(int k.2.2)]]) rfl ((u.trans l).trans ae) (S.pt 2 [1]) rfl ?_);exact ⟨rfl,rfl⟩
 refine CF af<|Wk<|Wg<|M' h4<|Lg<|A<|We ?_;obtain rfl:=oi b;exact ⟨rfl,⟨aq,h2,rfl,Aq0,((u.trans l).trans ae),(S.pt 2 [1])⟩⟩
theorem ceo5:Tryz.prog.cellsOf 5=1:=kr
theorem zBC {o ws:World} {p Hs:Hp} {t:List Ent} (hG:GlX o p) (s0_buf:(List UInt8)) {d:Value} {va0:Value} {c:Nat} (S:St o p ws Hs (.box c 272 [va0,d] :: .row d 5 1 s0_buf.length :: t)) (R0_1:Sl Hs d s0_buf) (u:va0=Value.pointer none∨va0=ptr c 0) {r:Str} (h:zBT s0_buf=some r) :
  ConS Tryz.prog 175 [(ptr c 0)] o p ws Hs t (fun H' v L'=>L'=[.box c 272 [va0,d]]∧v=(str r)):=by
 refine ConS.mk (N:=14) Tryz.func175 rfl rfl kr rfl<|Ws<|Wg<|A<|We<|Ws<|WP.draw kr 12 rfl (bm 12 0) rfl ?_;have S:=S.drew;refine At_ 0 12 1 rfl (fun _=>(R.mv (v:=ptr c 0) rfl)) ?_;refine At_ 5 12 33 rfl (fun _=>(R.mv (v:=ptr c 0) rfl)) ?_;refine WA.two (i:=1) (j:=6) (bm 12 35) (bm 12 97) rfl rfl kr rfl rfl ?_ ?_
 ·refine Nn<|We ?_
  refine At_ 2 12 39 rfl (fun _=>(R.fieldB rfl zGu)) ?_;refine WA.two (i:=3) (j:=6) (bm 12 47) (bm 12 103) rfl rfl kr rfl rfl ?_ ?_
  ·refine Lo 0 S<|We ?_
   refine WA.two (i:=4) (j:=6) (bm 12 63) (bm 12 111) rfl rfl kr rfl rfl ?_ ?_
   ·refine W.sliceData (i:=1) S rfl rfl Tryz.underlying321 ?_
    intro f k b S;refine We<|WA.one (i:=6) (bm 12 127) rfl kr rfl<|Nn<|We ?_;refine At_ 7 12 255 rfl (fun _=>(R.fieldB rfl zGu))<|WA.one (i:=8) (bm 12 511) rfl kr rfl ?_;refine Lo 0 S<|We ?_;refine At_ 9 12 1023 rfl (fun _=>(R.lenL (α:=UInt8) (xs:=s0_buf) (H:=Hs) R0_1 rfl Tryz.underlying266))<|WA.one (i:=10) (bm 12 2047) rfl kr rfl ?_;refine W.strOf (i:=1) S rfl R0_1 b rfl rfl Tryz.underlying321 ceo5 ?_;intro l S;refine We ?_;refine At_ 11 12 4095 rfl (fun _=>(R.as (v:=str s0_buf) rfl))<|WA.done kr ?_;obtain rfl:=oi h;refine WP.ret (OutS.one (L':=[.box c 272 [va0,d]]) rfl lr S rfl ?_);exact ⟨rfl,rfl⟩
   refine Nn<|We ?_;refine At_ 7 12 239 rfl (fun _=>(R.fieldB rfl zGu)) ?_;refine WA.two (i:=4) (j:=8) (bm 12 255) (bm 12 495) rfl rfl kr rfl rfl ?_ ?_
   ·refine W.sliceData (i:=1) S rfl rfl Tryz.underlying321 ?_
    intro f k b S;refine We<|WA.one (i:=8) (bm 12 511) rfl kr rfl ?_;refine Lo 0 S<|We ?_;refine At_ 9 12 1023 rfl (fun _=>(R.lenL (α:=UInt8) (xs:=s0_buf) (H:=Hs) R0_1 rfl Tryz.underlying266))<|WA.one (i:=10) (bm 12 2047) rfl kr rfl ?_;refine W.strOf (i:=1) S rfl R0_1 b rfl rfl Tryz.underlying321 ceo5 ?_;intro l S;refine We ?_;refine At_ 11 12 4095 rfl (fun _=>(R.as (v:=str s0_buf) rfl))<|WA.done kr ?_;obtain rfl:=oi h;refine WP.ret (OutS.one (L':=[.box c 272 [va0,d]]) rfl lr S rfl ?_);exact ⟨rfl,rfl⟩
   refine Lo 0 S<|We ?_;refine At_ 9 12 1007 rfl (fun _=>(R.lenL (α:=UInt8) (xs:=s0_buf) (H:=Hs) R0_1 rfl Tryz.underlying266))<|WA.one (i:=4) (bm 12 1023) rfl kr rfl<|W.sliceData (i:=1) S rfl rfl Tryz.underlying321 ?_;intro f k b S;refine We<|WA.one (i:=10) (bm 12 2047) rfl kr rfl ?_;refine W.strOf (i:=1) S rfl R0_1 b rfl rfl Tryz.underlying321 ceo5 ?_;intro l S;refine We ?_;refine At_ 11 12 4095 rfl (fun _=>(R.as (v:=str s0_buf) rfl))<|WA.done kr ?_;obtain rfl:=oi h;refine WP.ret (OutS.one (L':=[.box c 272 [va0,d]]) rfl lr S rfl ?_);exact ⟨rfl,rfl⟩
  refine Nn<|We ?_;refine At_ 7 12 231 rfl (fun _=>(R.fieldB rfl zGu)) ?_;refine WA.two (i:=3) (j:=8) (bm 12 239) (bm 12 487) rfl rfl kr rfl rfl ?_ ?_
  ·refine Lo 0 S<|We ?_
   refine WA.two (i:=4) (j:=8) (bm 12 255) (bm 12 495) rfl rfl kr rfl rfl ?_ ?_
   ·refine W.sliceData (i:=1) S rfl rfl Tryz.underlying321 ?_
    intro f k b S;refine We<|WA.one (i:=8) (bm 12 511) rfl kr rfl ?_;refine Lo 0 S<|We ?_;refine At_ 9 12 1023 rfl (fun _=>(R.lenL (α:=UInt8) (xs:=s0_buf) (H:=Hs) R0_1 rfl Tryz.underlying266))<|WA.one (i:=10) (bm 12 2047) rfl kr rfl ?_;refine W.strOf (i:=1) S rfl R0_1 b rfl rfl Tryz.underlying321 ceo5 ?_;intro l S;refine We ?_;refine At_ 11 12 4095 rfl (fun _=>(R.as (v:=str s0_buf) rfl))<|WA.done kr ?_;obtain rfl:=oi h;refine WP.ret (OutS.one (L':=[.box c 272 [va0,d]]) rfl lr S rfl ?_);exact ⟨rfl,rfl⟩
   refine Lo 0 S<|We ?_;refine At_ 9 12 1007 rfl (fun _=>(R.lenL (α:=UInt8) (xs:=s0_buf) (H:=Hs) R0_1 rfl Tryz.underlying266))<|WA.one (i:=4) (bm 12 1023) rfl kr rfl<|W.sliceData (i:=1) S rfl rfl Tryz.underlying321 ?_;intro f k b S;refine We<|WA.one (i:=10) (bm 12 2047) rfl kr rfl ?_;refine W.strOf (i:=1) S rfl R0_1 b rfl rfl Tryz.underlying321 ceo5 ?_;intro l S;refine We ?_;refine At_ 11 12 4095 rfl (fun _=>(R.as (v:=str s0_buf) rfl))<|WA.done kr ?_;obtain rfl:=oi h;refine WP.ret (OutS.one (L':=[.box c 272 [va0,d]]) rfl lr S rfl ?_);exact ⟨rfl,rfl⟩
  refine Lo 0 S<|We ?_;refine At_ 9 12 999 rfl (fun _=>(R.lenL (α:=UInt8) (xs:=s0_buf) (H:=Hs) R0_1 rfl Tryz.underlying266))<|WA.one (i:=3) (bm 12 1007) rfl kr rfl ?_;refine Lo 0 S<|We<|WA.one (i:=4) (bm 12 1023) rfl kr rfl<|W.sliceData (i:=1) S rfl rfl Tryz.underlying321 ?_;intro f k b S;refine We<|WA.one (i:=10) (bm 12 2047) rfl kr rfl ?_;refine W.strOf (i:=1) S rfl R0_1 b rfl rfl Tryz.underlying321 ceo5 ?_;intro l S;refine We ?_;refine At_ 11 12 4095 rfl (fun _=>(R.as (v:=str s0_buf) rfl))<|WA.done kr ?_;obtain rfl:=oi h;refine WP.ret (OutS.one (L':=[.box c 272 [va0,d]]) rfl lr S rfl ?_);exact ⟨rfl,rfl⟩
 refine Nn<|We ?_;refine At_ 7 12 225 rfl (fun _=>(R.fieldB rfl zGu)) ?_;refine WA.two (i:=1) (j:=8) (bm 12 227) (bm 12 481) rfl rfl kr rfl rfl ?_ ?_
 ·refine Nn<|We ?_
  refine At_ 2 12 231 rfl (fun _=>(R.fieldB rfl zGu)) ?_;refine WA.two (i:=3) (j:=8) (bm 12 239) (bm 12 487) rfl rfl kr rfl rfl ?_ ?_
  ·refine Lo 0 S<|We ?_
   refine WA.two (i:=4) (j:=8) (bm 12 255) (bm 12 495) rfl rfl kr rfl rfl ?_ ?_
   ·refine W.sliceData (i:=1) S rfl rfl Tryz.underlying321 ?_
    intro f k b S;refine We<|WA.one (i:=8) (bm 12 511) rfl kr rfl ?_;refine Lo 0 S<|We ?_;refine At_ 9 12 1023 rfl (fun _=>(R.lenL (α:=UInt8) (xs:=s0_buf) (H:=Hs) R0_1 rfl Tryz.underlying266))<|WA.one (i:=10) (bm 12 2047) rfl kr rfl ?_;refine W.strOf (i:=1) S rfl R0_1 b rfl rfl Tryz.underlying321 ceo5 ?_;intro l S;refine We ?_;refine At_ 11 12 4095 rfl (fun _=>(R.as (v:=str s0_buf) rfl))<|WA.done kr ?_;obtain rfl:=oi h;refine WP.ret (OutS.one (L':=[.box c 272 [va0,d]]) rfl lr S rfl ?_);exact ⟨rfl,rfl⟩
   refine Lo 0 S<|We ?_;refine At_ 9 12 1007 rfl (fun _=>(R.lenL (α:=UInt8) (xs:=s0_buf) (H:=Hs) R0_1 rfl Tryz.underlying266))<|WA.one (i:=4) (bm 12 1023) rfl kr rfl<|W.sliceData (i:=1) S rfl rfl Tryz.underlying321 ?_;intro f k b S;refine We<|WA.one (i:=10) (bm 12 2047) rfl kr rfl ?_;refine W.strOf (i:=1) S rfl R0_1 b rfl rfl Tryz.underlying321 ceo5 ?_;intro l S;refine We ?_;refine At_ 11 12 4095 rfl (fun _=>(R.as (v:=str s0_buf) rfl))<|WA.done kr ?_;obtain rfl:=oi h;refine WP.ret (OutS.one (L':=[.box c 272 [va0,d]]) rfl lr S rfl ?_);exact ⟨rfl,rfl⟩
  refine Lo 0 S<|We ?_;refine At_ 9 12 999 rfl (fun _=>(R.lenL (α:=UInt8) (xs:=s0_buf) (H:=Hs) R0_1 rfl Tryz.underlying266))<|WA.one (i:=3) (bm 12 1007) rfl kr rfl ?_;refine Lo 0 S<|We<|WA.one (i:=4) (bm 12 1023) rfl kr rfl<|W.sliceData (i:=1) S rfl rfl Tryz.underlying321 ?_;intro f k b S;refine We<|WA.one (i:=10) (bm 12 2047) rfl kr rfl ?_;refine W.strOf (i:=1) S rfl R0_1 b rfl rfl Tryz.underlying321 ceo5 ?_;intro l S;refine We ?_;refine At_ 11 12 4095 rfl (fun _=>(R.as (v:=str s0_buf) rfl))<|WA.done kr ?_;obtain rfl:=oi h;refine WP.ret (OutS.one (L':=[.box c 272 [va0,d]]) rfl lr S rfl ?_);exact ⟨rfl,rfl⟩
 refine Lo 0 S<|We ?_;refine At_ 9 12 993 rfl (fun _=>(R.lenL (α:=UInt8) (xs:=s0_buf) (H:=Hs) R0_1 rfl Tryz.underlying266))<|WA.one (i:=1) (bm 12 995) rfl kr rfl<|Nn<|We ?_;refine At_ 2 12 999 rfl (fun _=>(R.fieldB rfl zGu))<|WA.one (i:=3) (bm 12 1007) rfl kr rfl ?_;refine Lo 0 S<|We<|WA.one (i:=4) (bm 12 1023) rfl kr rfl<|W.sliceData (i:=1) S rfl rfl Tryz.underlying321 ?_;intro f k b S;refine We<|WA.one (i:=10) (bm 12 2047) rfl kr rfl ?_;refine W.strOf (i:=1) S rfl R0_1 b rfl rfl Tryz.underlying321 ceo5 ?_;intro l S;refine We ?_;refine At_ 11 12 4095 rfl (fun _=>(R.as (v:=str s0_buf) rfl))<|WA.done kr ?_;obtain rfl:=oi h;refine WP.ret (OutS.one (L':=[.box c 272 [va0,d]]) rfl lr S rfl ?_);exact ⟨rfl,rfl⟩
theorem zWN:fld Tryz.prog 272 0=some 0:=kr
instance:Fld Tryz.prog 272 0 0:=⟨zWN⟩
theorem zWr:lay Tryz.prog 270=some (false,1):=kr
instance:Lay Tryz.prog 270 (false,1):=⟨zWr⟩
theorem zWc:lay Tryz.prog 272=some (true,2):=kr
instance:Lay Tryz.prog 272 (true,2):=⟨zWc⟩
theorem zWj:∃ i,Tryz.prog.info? 272=some i:=Option.isSome_iff_exists.1 kr
theorem zYu:Tryz.prog.cellsOf 272=2:=kr
theorem zEM {f ws:World} {j Hs:Hp} {l:List Ent} (hG:GlX f j) (s0_buf:(List UInt8)) {d:Value} {c:Nat} (S:St f j ws Hs (.box c 272 [(.pointer none),d] :: .row d 5 1 s0_buf.length :: l)) (R0_1:Sl Hs d s0_buf) {r:Unit} (h:zFO s0_buf=some r) :
  ConS Tryz.prog 233 [(ptr c 0)] f j ws Hs l (fun H' v L'=>∃ k:Value,L'=[.box c 272 [(ptr c 0),k],.row k 5 1 s0_buf.length]∧v=(.tuple #[])∧Sl H' k s0_buf):=by
 refine ConS.mk (N:=20) Tryz.func233 rfl rfl kr rfl<|Ws<|Wg<|M<|Nn<|Fb ?_;refine Lo 0 S ?_;refine WL.wz (v:=boo true) (R.ofEq (R.eqlPN rfl rfl Tryz.underlying270) rfl)<|We<|WP.condT (b:=true) rfl rfl<|Wg<|M ?_;refine M ?_;refine WL.wz (R.toUnsafe (i:=0) S rfl rfl Tryz.underlying270 Tryz.underlying107 zWc (by decide) (by simp))<|W.noEscape Tryz.func268 rfl rfl kr kr rfl ?_;refine WL.wz (R.fromUnsafe (i:=0) S rfl rfl Tryz.underlying107 Tryz.underlying270 zWj zYu (by simp))<|Nn<|Fb ?_;refine W.store (i:=0) [(ptr c 0),d] S rfl rfl rfl zWr rfl rfl (nL kr) rfl ?_;intro o S;refine We ?_;obtain rfl:=oi h;refine (OutS.zero (L':=[.box c 272 [(ptr c 0),d],.row d 5 1 s0_buf.length]) (.inr rfl) rfl lr S ?_);exact ⟨_,rfl,rfl,R0_1⟩
theorem zD7 {f ws:World} {i Hs:Hp} {k:List Ent} (hG:GlX f i) (s0_buf:(List UInt8)) {d:Value} {c:Nat} (S:St f i ws Hs (.box c 272 [(ptr c 0),d] :: .row d 5 1 s0_buf.length :: k)) (R0_1:Sl Hs d s0_buf) {r:Unit} (h:zE2 s0_buf=some r) :
  ConS Tryz.prog 233 [(ptr c 0)] f i ws Hs k (fun H' v L'=>∃ j:Value,L'=[.box c 272 [(ptr c 0),j],.row j 5 1 s0_buf.length]∧v=(.tuple #[])∧Sl H' j s0_buf):=by
 refine ConS.mk (N:=20) Tryz.func233 rfl rfl kr rfl<|Ws<|Wg<|M<|Nn<|Fb ?_;refine Lo 0 S ?_;refine WL.wz (v:=boo false) (R.ofEq (R.eqlPN rfl rfl Tryz.underlying270) rfl)<|We<|WP.condF (b:=false) rfl rfl<|Ws<|Wg ?_;refine M<|Nn<|Fb ?_;refine Lo 0 S<|M ?_;refine WL.wz (R.neqPS rfl rfl Tryz.underlying270 zWj)<|We<|WP.condF (b:=false) rfl rfl<|Wk ?_;obtain rfl:=oi h;refine (OutS.zero (L':=[.box c 272 [(ptr c 0),d],.row d 5 1 s0_buf.length]) (.inr rfl) rfl lr S ?_);exact ⟨_,rfl,rfl,R0_1⟩
theorem zDX {c ws:World} {d Hs:Hp} {p:List Ent} (hG:GlX c d) (s0_buf:List UInt8) {f va0:Value} {b:Nat} (S:St c d ws Hs (.box b 272 [va0,f] :: .row f 5 1 s0_buf.length :: p)) (R0_1:Sl Hs f s0_buf) (t:va0=Value.pointer none∨va0=ptr b 0) {r:Unit} (h:zBI s0_buf=some r) :
  ConS Tryz.prog 233 [(ptr b 0)] c d ws Hs p (fun H' v L'=>∃ i j:Value,L'=[.box b 272 [i,j],.row j 5 1 s0_buf.length]∧v=(.tuple #[])∧(i=Value.pointer none∨i=ptr b 0)∧Sl H' j s0_buf):=by
 rcases t with rfl | rfl
 ·exact ConS.mono (zEM hG s0_buf S R0_1 rfl) fun H' v L' ⟨u,k,l,o⟩=>⟨_,u,k,l,.inr rfl,o⟩
 exact ConS.mono (zD7 hG s0_buf S R0_1 rfl) fun H' v L' ⟨u,k,l,o⟩=>⟨_,u,k,l,.inr rfl,o⟩
theorem zC4 {c ws:World} {d Hs:Hp} {j:List Ent} (hG:GlX c d) (t:Str) (s0_buf:(List UInt8)) {f:Value} {va0:Value} {b:Nat} (S:St c d ws Hs (.box b 272 [va0,f] :: .row f 5 1 s0_buf.length :: j)) (R0_1:Sl Hs f s0_buf) (z:va0=Value.pointer none∨va0=ptr b 0) {r:(Int×Unit×(List UInt8))} (h:zAk t s0_buf=some r) :
  ConS Tryz.prog 172 [(ptr b 0),(str t)] c d ws Hs j (fun H' v L'=>∃ k l:Value,L'=[.box b 272 [k,l],.row l 5 1 r.2.2.length]∧v=(.tuple ⟨[(int r.1),.nilIface]⟩)∧(k=Value.pointer none∨k=ptr b 0)∧Sl H' l r.2.2):=by
 refine ConS.mk (N:=19) Tryz.func172 rfl rfl kr rfl<|Ws<|Wg<|A<|A<|We<|Ws<|Wg<|M ?_;replace S:=S.front 1 rfl;replace S:=S.front 1 rfl;replace S:St c d _ Hs (.box b 272 [va0,f] :: .row f 5 1 s0_buf.length :: j):=S;refine B h fun r1 aa h=>W.callS rfl (zDX hG s0_buf S R0_1 z aa) ?_
 rintro v2 w3 H4 L6 ac S ⟨o,u,rfl,rfl,ad,ae⟩;replace S:St c d _ H4 (.box b 272 [o,u] :: .row u 5 1 s0_buf.length :: j):=S;refine We<|Ws<|Wg<|M<|M<|Nn<|Fb ?_;refine Lo 0 S<|M<|B h fun af ah h=>W.appStr (i:=1) S el266 Tryz.underlying9 rfl rfl rfl ae ah ?_
 intro p an ao ai x S;refine Nn<|Fb ?_;refine W.storeSl (α:=UInt8) (i:=0) [o,p] S x rfl rfl rfl zWp (nL kr) rfl ?_;intro ap S;refine We<|Ws<|Wg<|M<|Ns<|A<|A<|We ?_;obtain rfl:=oi h;refine WP.ret (OutS.two (L':=[.box b 272 [o,p],.row p 5 1 af.length]) rfl (ac.trans ai) S rfl rfl ?_);exact ⟨_,_,rfl,rfl,ad,x⟩
end Go.Proofs
namespace Go.Proofs
open Go Go.Eng Go.VI Go.Eng.Pure
theorem c205:FK ⟨205,[.str],[.int],fun x=>zIk x⟩:=mk (fcons c99 anil) (.e) Tryz.func205
theorem zOe {b:World} {c:Hp} (hw:Holds b c) (hG:GlX b c) (d:Str) {r:Int} (h:zIk d=some r) :
  Ci Tryz.prog 205 [(str d)] b c r:=by
 refine (c205 (xs:=(d)) (y:=r) hw hG.ok hG.gs ⟨_,rfl,rfl⟩ h).mono ?_;rintro _ v ⟨_,rfl,D⟩;obtain ⟨f,rfl,i⟩:=D;obtain rfl:f=_:=i;exact rfl
end Go.Proofs
namespace Go.Proofs
open Go.Eng Go.Eng.Pure
theorem zMV {d:World} {k:Hp} (hw:Holds d k) (hG:GlX d k) (ac:Str) {r:(Str×Int×Int)} (h:zFP ac=some r) :
  Con Tryz.prog 140 [(str ac)] d k (fun H' v=>v=(.tuple ⟨[(str r.1),(int r.2.1),(int r.2.2)]⟩)):=by
 refine CM 72 Tryz.func140 hw fun S=>?_
 refine Ws<|Wg ?_;refine W.box [(str ac)] S rfl rfl ?_;intro b1 w2 S;refine A<|A<|A<|We<|Ws<|Wg ?_;refine W.alloc [(.pointer none),(.slice none 0 0)] S zYG ?_;intro o w4 S;refine We<|Ws<|Wg ?_;refine W.alloc [(int 0)] S zer3 ?_;intro l w6 S;refine W.store (i:=0) [(int 0)] S rfl rfl rfl lay3 rfl rfl (nL kr) rfl ?_;intro w7 S;refine We<|Ws<|Wg ?_;obtain ⟨H8,cd,bh,_,S⟩:=S.settle (i:=2) rfl;replace S:St d k _ H8 [.box l 3 [(int 0)],.box o 272 [(.pointer none),(.slice none 0 0)]]:=S;have p:At H8 ⟨b1,0,none⟩ [(str ac)]:=⟨_,_,rfl,bh,[],by simp⟩;refine WL.wz (R.mkFunc (vs:=[(Value.pointer (some ⟨b1,0,none⟩)),(ptr l 0)]) rfl)<|A<|We ?_;obtain ⟨au,av⟩:∃ v:Value,v=.slice none 0 0:=⟨_,rfl⟩;have bi:Sl (α:=UInt8) H8 au []:=by rw [av]; exact Sl.nil
 replace S:=(show ∀ {w:World},St d k w H8 [.box l 3 [(int 0)],.box o 272 [(.pointer none),(.slice none 0 0)]]→St d k w H8 [.box l 3 [(int 0)],.box o 272 [(.pointer none),au]] from fun S=>by rw [av]; exact S) S;replace S:=St.addNilV av S 5 1;refine B h fun bj bn h=>WP.cut (fun _ _=>False) ?_ (fun _ _ h=>h.elim)
 refine Wb ?_;refine WP.loopM (zGb ac) (fun s f w=>match s with | (am,u)=>∃ (ah:Hp) (t:Value) (c:Value),f 1=(Value.pointer (some ⟨b1,0,none⟩))∧f 5=(ptr o 0)∧f 6=(ptr l 0)∧f 7=(.func (.func 202) #[] [(Value.pointer (some ⟨b1,0,none⟩)),(ptr l 0)].toArray)∧At ah ⟨b1,0,none⟩ [(str ac)]∧(t=Value.pointer none∨t=ptr o 0)∧Sl ah c u∧St d k w ah [.row c 5 1 u.length,.box l 3 [(int am)],.box o 272 [t,c]]) (0,([]:List UInt8)) bj bn ?_ ?_
 ·exact ⟨H8,.pointer none,au,rfl,rfl,rfl,rfl,p,(Or.inl rfl),bi,S⟩
 intro s f w hI ce b ad;obtain ⟨am,u⟩:=s;obtain ⟨ah,t,c,an,ai,aa,aw,p,ao,x,S⟩:=hI;refine Wb<|Ws<|Wg<|M' aw ?_;replace S:=S.front 1 rfl;replace S:St d k _ ah [.box l 3 [(int am)],.row c 5 1 u.length,.box o 272 [t,c]]:=S;refine B b fun z bo b=>W.callvS rfl rfl (zFW hG ac am S p bo) ?_
 rintro cf cg a8 ch a9 S ⟨rfl,rfl⟩;replace S:St d k _ a8 [.box l 3 [(int z.2.2)],.row c 5 1 u.length,.box o 272 [t,c]]:=S;replace S:=S.front 2 rfl;replace S:=S.front 1 rfl;replace S:=S.front 2 rfl;replace S:St d k _ a8 [.row c 5 1 u.length,.box l 3 [(int z.2.2)],.box o 272 [t,c]]:=S;have p:=At.mono p a9 (by simp);have x:=x.up a9;refine M ?_;refine Ex ?_;refine Ex<|A<|A<|We<|Ws<|Ws<|Wg<|M<|Lf<|We ?_;rcases condE b with ⟨ax,b⟩ | ⟨ax,b⟩
 ·refine CT ax<|Ws<|Wg<|M<|A<|A<|A<|We ?_
  obtain rfl:=oi b;obtain rfl:=ad;obtain rfl:=oi h;refine WP.ret (Out.three rfl S rfl rfl rfl ?_);exact rfl
 refine CF ax<|Wk<|Ws<|Wg<|M<|B b fun ba bp b=>W.call S rfl (zNt S.holds (hG.pstX S.post) z.1 bp) ?_
 rintro ci cj bq bb S rfl;have p:=At.mono p bb (by simp);have x:=x.up bb;refine M ?_;refine Ex ?_;refine Ex<|A<|A<|We<|Ws<|Wb<|Ws<|Wg<|M<|No ?_;refine A<|We ?_;rcases condE b with ⟨ay,b⟩ | ⟨ay,b⟩
 ·refine CT ay<|Ws<|Wg<|A<|A<|A<|We ?_
  obtain rfl:=oi b;obtain rfl:=ad;obtain rfl:=oi h;refine WP.ret (Out.three rfl S rfl rfl rfl ?_);exact rfl
 refine CF ay<|Ws<|Wg ?_;replace S:=S.front 2 rfl;replace S:St d k _ bq [.box o 272 [t,c],.row c 5 1 u.length,.box l 3 [(int z.2.2)]]:=S;refine B b fun ck br b=>W.callS (mapC ai mapN) (zEs hG u S x ao br) ?_
 rintro cl cm ap cn bc S ⟨rfl,rfl⟩;replace S:St d k _ ap [.box o 272 [t,c],.row c 5 1 u.length,.box l 3 [(int z.2.2)]]:=S;replace S:=S.front 2 rfl;replace S:=S.front 2 rfl;replace S:St d k _ ap [.row c 5 1 u.length,.box l 3 [(int z.2.2)],.box o 272 [t,c]]:=S;have p:=At.mono p bc (by simp);have x:=x.up bc;refine M<|Lg<|Lc<|A<|We ?_;rcases condE b with ⟨az,b⟩ | ⟨az,b⟩
 ·refine CT az<|Ws<|Wg<|A<|A<|A<|We ?_
  obtain rfl:=oi b;obtain rfl:=ad;obtain rfl:=oi h;refine WP.ret (Out.three rfl S rfl rfl rfl ?_);exact rfl
 refine CF az<|Ws<|Wg<|M<|Le<|A<|We ?_;rcases condE b with ⟨a0,b⟩ | ⟨a0,b⟩
 ·refine CT a0<|Ws<|Ws<|Wg<|M' aw ?_
  replace S:=S.front 1 rfl;replace S:St d k _ ap [.box l 3 [(int z.2.2)],.row c 5 1 u.length,.box o 272 [t,c]]:=S;refine B b fun ab bs b=>W.callS rfl (zEX hG ac z.2.2 S p bs) ?_
  rintro co cp aq cq bd S ⟨rfl,rfl⟩;replace S:St d k _ aq [.box l 3 [(int ab.2)],.row c 5 1 u.length,.box o 272 [t,c]]:=S;replace S:=S.front 2 rfl;replace S:=S.front 1 rfl;replace S:=S.front 2 rfl;replace S:St d k _ aq [.row c 5 1 u.length,.box l 3 [(int ab.2)],.box o 272 [t,c]]:=S;have p:=At.mono p bd (by simp);have x:=x.up bd;refine A<|We<|Ws<|Wg<|M<|Lf<|We ?_;rcases condE b with ⟨a1,b⟩ | ⟨a1,b⟩
  ·refine CT a1<|Ws<|Wg<|M<|A<|A<|A<|We ?_
   obtain rfl:=oi b;obtain rfl:=ad;obtain rfl:=oi h;refine WP.ret (Out.three rfl S rfl rfl rfl ?_);exact rfl
  refine CF a1<|Wk<|Ws<|WP.draw kr 5 rfl (bm 5 0) rfl ?_;have S:=S.drew;refine WA.two (i:=0) (j:=1) (bm 5 1) (bm 5 2) rfl rfl kr rfl rfl ?_ ?_
  ·replace S:=S.front 2 rfl
   replace S:St d k _ aq [.box o 272 [t,c],.row c 5 1 u.length,.box l 3 [(int ab.2)]]:=S;refine B b fun a2 a3 b=>W.callS (mapC ai mapN) (zBC hG u S x ao a3) ?_
   rintro bt bu aj bv ak S ⟨rfl,rfl⟩;replace S:St d k _ aj [.box o 272 [t,c],.box l 3 [(int ab.2)]]:=S;replace S:=S.front 1 rfl;replace S:St d k _ aj [.box l 3 [(int ab.2)],.box o 272 [t,c]]:=S;have p:=At.mono p ak (by simp);have x:=x.up ak;refine We ?_;refine At_ 2 5 5 rfl (fun _=>(R.as (v:=str a2) rfl))<|WA.one (i:=1) (bm 5 7) rfl kr rfl ?_;refine Lo' 0 S aa<|We ?_;refine At_ 3 5 15 rfl (fun _=>(R.as (v:=int ab.2) rfl)) ?_;refine At_ 4 5 31 rfl (fun _=>(R.as (v:=int 0) rfl))<|WA.done kr ?_;obtain rfl:=oi b;obtain rfl:=ad;obtain rfl:=oi h;refine WP.ret (Out.three rfl S rfl rfl rfl ?_);exact rfl
  refine Lo' 1 S aa<|We<|WA.one (i:=0) (bm 5 3) rfl kr rfl ?_;replace S:=S.front 2 rfl;replace S:St d k _ aq [.box o 272 [t,c],.row c 5 1 u.length,.box l 3 [(int ab.2)]]:=S;refine B b fun a2 a3 b=>W.callS (mapC ai mapN) (zBC hG u S x ao a3) ?_
  rintro bt bu aj bv ak S ⟨rfl,rfl⟩;replace S:St d k _ aj [.box o 272 [t,c],.box l 3 [(int ab.2)]]:=S;replace S:=S.front 1 rfl;replace S:St d k _ aj [.box l 3 [(int ab.2)],.box o 272 [t,c]]:=S;have p:=At.mono p ak (by simp);have x:=x.up ak;refine We ?_;refine At_ 2 5 7 rfl (fun _=>(R.as (v:=str a2) rfl)) ?_;refine At_ 3 5 15 rfl (fun _=>(R.as (v:=int ab.2) rfl)) ?_;refine At_ 4 5 31 rfl (fun _=>(R.as (v:=int 0) rfl))<|WA.done kr ?_;obtain rfl:=oi b;obtain rfl:=ad;obtain rfl:=oi h;refine WP.ret (Out.three rfl S rfl rfl rfl ?_);exact rfl
 refine CF a0<|Ws<|Wg ?_;refine Lq' S p an<|Ns ?_;refine Lo' 1 S aa<|Lh<|M<|La<|A<|We ?_;rcases condE b with ⟨a4,b⟩ | ⟨a4,b⟩
 ·refine CT a4<|Ws<|Wg<|A<|A<|A<|We ?_
  obtain rfl:=oi b;obtain rfl:=ad;obtain rfl:=oi h;refine WP.ret (Out.three rfl S rfl rfl rfl ?_);exact rfl
 refine CF a4<|Wk<|Ws<|Wg ?_;refine Lq' S p an ?_;refine Lo' 1 S aa ?_;refine Lo' 1 S aa<|M<|Lg<|B b fun bw bx b=>Jb bx ?_
 replace S:=S.front 2 rfl;replace S:St d k _ ap [.box o 272 [t,c],.row c 5 1 u.length,.box l 3 [(int z.2.2)]]:=S;refine B b fun be bz b=>W.callS (mapC ai (mapC rfl mapN)) (zC4 hG bw u S x ao bz) ?_
 rintro cr cs bf ct b0 S ⟨a5,al,rfl,rfl,b2,a6⟩;replace S:St d k _ bf [.box o 272 [a5,al],.row al 5 1 be.2.2.length,.box l 3 [(int z.2.2)]]:=S;replace S:=S.front 2 rfl;replace S:=S.front 2 rfl;replace S:St d k _ bf [.row al 5 1 be.2.2.length,.box l 3 [(int z.2.2)],.box o 272 [a5,al]]:=S;have p:=At.mono p b0 (by simp);refine We<|Ws<|Wg ?_;refine Lo' 1 S aa<|M<|Lg ?_;refine W.store (i:=1) [(int (wr (z.2.2+ba.1)))] S aa rfl rfl lay3 rfl rfl (nL kr) rfl ?_;intro cu S;refine We<|Ws<|Ws<|Wg ?_;refine Lq' S p an ?_;refine Lo' 1 S aa<|B b fun b4 b6 b=>Jc b6<|B b fun cv b7 b=>W.call S rfl (zOe S.holds (hG.pstX S.post) b4 b7) ?_
 rintro cw w81 b8 bg S rfl;have p:=At.mono p bg (by simp);have a6:=a6.up bg;refine A<|We<|Ws<|Wg<|M<|Lf<|We ?_;rcases condE b with ⟨a7,b⟩ | ⟨a7,b⟩
 ·refine CT a7<|Ws<|Wg<|M<|A<|A<|A<|We ?_
  obtain rfl:=oi b;obtain rfl:=ad;obtain rfl:=oi h;refine WP.ret (Out.three rfl S rfl rfl rfl ?_);exact rfl
 refine CF a7<|Wk<|Wg ?_;refine Lo' 1 S aa<|Lg ?_;refine W.store (i:=1) [(int (wr ((wr (z.2.2+ba.1))+2)))] S aa rfl rfl lay3 rfl rfl (nL kr) rfl ?_;intro cx S;refine We ?_;obtain rfl:=oi b;exact ⟨rfl,⟨b8,a5,al,an,ai,aa,aw,p,b2,a6,S⟩⟩
end Go.Proofs
