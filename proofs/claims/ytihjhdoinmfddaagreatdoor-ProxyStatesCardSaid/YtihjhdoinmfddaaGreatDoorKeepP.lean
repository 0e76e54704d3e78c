/- A part. -/
import Derived.Test.YtihjhdoinmfddaaGreatDoorGenN6
import Derived.Test.YtihjhdoinmfddaaGreatDoorPureH
set_option linter.unusedVariables false
set_option linter.unusedSimpArgs false
set_option maxHeartbeats 4000000
set_option maxRecDepth 100000
namespace Go.Proofs
open Go Go.Eng Go.VI Go.Eng.Pure
theorem e160:FK ⟨160,[.str],[.str,.str,.int,.int],fun x=>zAf x⟩:=c160
theorem e138:FK ⟨138,[.str],[.int,.int,.str,.int],fun x=>zAY x⟩:=c138
noncomputable section
variable {l:List (GE UU)} (h:GamOk Tryz.prog (gal l))
def wI137:WE Tryz.prog UU:=wI 137 h (.e) Tryz.func137 [(6,9,[.t 0,.t 1,.t 2,.t 3,.t 4,.t 5,.t 6,.l 7 true,.l 8 true,.l 9 false,.l 10 false,.l 11 false]),(8,9,[.t 0,.t 1,.t 2,.t 3,.t 4,.t 5,.t 6,.l 7 true,.l 8 true,.l 9 false,.l 10 false,.l 11 false]),(2,8,[.t 0,.t 1,.t 2,.t 3,.t 4,.t 5,.l 6 true,.l 7 true,.l 8 false,.l 9 false,.l 10 false])]
def wI95:WE Tryz.prog UU:=wI 95 h (.e) Tryz.func95
def wI78:WE Tryz.prog UU:=wI 78 h (.e) Tryz.func78
def w77q:WE Tryz.prog UU:=wJ 77 h (.n .e (.n .e (.lp ⟨[iS 5 .int,iC 0 1 .int,⟨.cs 0 2,.sl (.st 138),some 138⟩,⟨.cs 0 3,.sl .str,some 9⟩,⟨.cs 0 4,.sl .str,some 9⟩,iC 0 5 .str,iC 0 6 .str,iC 0 7 .int],none,[]⟩ none true .e))) [.int] [⟨0,1,.int,none,[]⟩,⟨0,2,.sl (.st 138),some 138,[]⟩,⟨0,3,.sl .str,some 9,[]⟩,⟨0,4,.sl .str,some 9,[]⟩,⟨0,5,.str,none,[]⟩,⟨0,6,.str,none,[]⟩,⟨0,7,.int,none,[]⟩] Tryz.func77
def w79:WE Tryz.prog UU:=wJ 79 h (.n .e (.n .e (.n .e (.n (.n .e (.lp ⟨[iS 58 .int],none,[]⟩ (some ⟨[],none,[]⟩) true .e)) .e)))) [.int] [] Tryz.func79
def w81:WE Tryz.prog UU:=wJ 81 h (.e) [.str,.int] [⟨0,1,.int,none,[]⟩] Tryz.func81
end
theorem e47:FK ⟨47,[.str],[.st 63,.int,.int],fun x=>zCI x⟩:=mk (wc w81 (wc w79 (wc w77q (wc wI137 (wc wI95 (fcons c140 (fcons c96 (fcons c139 (fcons c120 (fcons c197 (fcons c136 (fcons e160 anil)))))))))))) (.e) Tryz.func47 [(16,10,[.t 0,.t 1,.t 2,.t 3,.t 4,.t 5,.t 6,.t 7,.t 8,.l 9 true,.l 10 false,.l 11 false])]
noncomputable def w77r {l:List (GE UU)} (h:GamOk Tryz.prog (gal l)):WE Tryz.prog UU:=wJ 77 h (.n .e (.n .e (.lp ⟨[iS 5 .int,iC 0 1 .int,⟨.cs 0 2,.sl (.st 138),some 138⟩,⟨.cs 0 3,.sl .str,some 9⟩,⟨.cs 0 4,.sl .str,some 9⟩,iC 0 5 .int,iC 0 6 .int,iC 0 7 .str],none,[]⟩ none true .e))) [.int] [⟨0,1,.int,none,[]⟩,⟨0,2,.sl (.st 138),some 138,[]⟩,⟨0,3,.sl .str,some 9,[]⟩,⟨0,4,.sl .str,some 9,[]⟩,⟨0,5,.int,none,[]⟩,⟨0,6,.int,none,[]⟩,⟨0,7,.str,none,[]⟩] Tryz.func77
theorem e43:FK ⟨43,[.str,.str,.boo],[.st 92,.int,.int],fun x=>zBz x.1 x.2.1 x.2.2⟩:=mk (wc w81 (wc w79 (wc w77r (wc wI95 (wc wI137 (wc wI78 (fcons c140 (fcons c80 (fcons c139 (fcons e160 (fcons c120 (fcons c197 (fcons c136 (fcons e138 anil)))))))))))))) (.n .e (.n .e (.n .e (.n .e (.n .e (.n .e (.n (.j ⟨[iS 12 .int,iC 9 1 .int,iC 9 9 .str],none,[]⟩ false .e) .e))))))) Tryz.func43 [(20,10,[.t 0,.t 1,.t 2,.t 3,.t 4,.t 5,.t 6,.t 7,.t 8,.l 9 true,.l 10 false,.l 11 false])]
theorem jC {l:List (GE UU)} (h:GamOk Tryz.prog (gal l)):GamOk Tryz.prog (gal (⟨171,stl1 (FE.spec (U:=UU) ⟨171,[(.sl .str),.str],[.str],fun x=>strings_Join x.1 x.2⟩)⟩ :: l)):=acons (F:=⟨171,_⟩) (zXx (FE.spec_ok c171)) h
theorem e103:FK ⟨103,[.str],[.str],fun x=>zEQ x⟩:=mk (jC (fcons c100 (fcons c99 anil))) (.n .e (.n (.n .e (.n .e (.n .e (.n .e (.n (.lp ⟨[iR 3 (.mr .str) 9,iS 4 .str,iS 5 .boo],none,[]⟩ (some ⟨[iR 3 (.mr .str) 9],none,[]⟩) false .e) .e))))) .e)) Tryz.func103
end Go.Proofs
namespace Go.Eng.Pure
open Go Go.Eng
noncomputable def zFc (p_t p_h:Str):Option (GURI×Int) :=
  ((zC6 p_t).bind fun r18 =>
   (bif r18 then
     (xsub p_t 7 p_t.length).bind fun s20 =>
     (zAh s20 [47,63]).bind fun r22 =>
     (bif decide (r22<0) then
       (xsub s20 0 (s20.length:Int)).bind fun a =>
       (xsub s20 (s20.length:Int) s20.length).bind fun b =>
       some (.inl (b,a))
     else
       (xsub s20 0 r22).bind fun a =>
       (xsub s20 r22 s20.length).bind fun b =>
       some (.inl (b,a)))
   else
     (zAj p_t [47]).bind fun r35 =>
     (bif !r35 then
       some (.inr ((⟨[],0,[],[],false⟩:GURI),9))
     else
       some (.inl (p_t,p_h))))).bind fun (j:(Str×Str) ⊕ (GURI×Int))=>match j with
  | .inr e=>some e
  | .inl x =>
    (zAW x.1 [63]).bind fun r40 =>
    (zCs r40.1).bind fun r46 =>
    (zCs r40.2.1).bind fun r51 =>
    (bif (!r46.2)||(!r51.2) then
      some ((⟨[],0,[],[],false⟩:GURI),9)
    else
      (bif r46.1==[] then some [47] else some r46.1).bind fun path =>
      (zDs x.2).bind fun r65 =>
      (bif !r65.2.2 then
        some ((⟨[],0,[],[],false⟩:GURI),6)
      else
        (zEQ path).bind fun r75 =>
        some ((⟨r65.1,r65.2.1,r75,r51.1,r40.2.2⟩:GURI),0)))
noncomputable def zFJ (p_b:GURI) (p_r:Str):Option (GURI×Bool) :=
 (zC6 p_r).bind fun r =>
 (bif !r then
  (zAj p_r [47]).bind fun a =>
  (bif !a then some true else (zAj p_r [47,47]).bind fun b=>some b).bind fun c=>some c
 else some false).bind fun b =>
 (bif b then
  some ((⟨[],0,[],[],false⟩:GURI),false)
 else
  (zCp p_b).bind fun a =>
  (zFc p_r a).bind fun u =>
  some (u.1,u.2==0))
noncomputable def zDz (p_u:GURI) (p_r:GResponse) (name:Str) (l:List Str) (k:List Str→Option (List Str)):Option (List Str) :=
 (zAt p_r.fFields name).bind fun r26 =>
 (zFJ p_u r26.1).bind fun r32 =>
 (zGG r32.1).bind fun r36 =>
 (bif (r32.2&&(r32.1.fHost==p_u.fHost))&&(r32.1.fPort==p_u.fPort) then
  (zAr l r36).bind fun r55=>some (!r55)
 else
  some false).bind fun b =>
 (bif b then
  (xapp l ([r36]:List Str)).bind fun l61=>some l61
 else
  some l).bind k
noncomputable def zFD (p_u:GURI) (p_r:GResponse):Option (List Str) :=
 (zGG p_u).bind fun r14 =>
 zDz p_u p_r [76,111,99,97,116,105,111,110] [r14] fun l =>
 zDz p_u p_r [67,111,110,116,101,110,116,45,76,111,99,97,116,105,111,110] l some
noncomputable def zCO (p_q:GRequest) (p_e:GEntry):Option GRequest :=
 (zBt p_q.fFields [[73,102,45,78,111,110,101,45,77,97,116,99,104],[73,102,45,77,111,100,105,102,105,101,100,45,83,105,110,99,101],[73,102,45,77,97,116,99,104],[73,102,45,85,110,109,111,100,105,102,105,101,100,45,83,105,110,99,101],[73,102,45,82,97,110,103,101],[82,97,110,103,101]]).bind fun l =>
 (zIG p_e.fFields).bind fun t =>
 (bif t.2 then
  (zHa t.1).bind fun r24 =>
  (xapp l ([⟨[73,102,45,78,111,110,101,45,77,97,116,99,104],r24⟩]:List GField)).bind fun l27=>some l27
 else
  some l).bind fun l1 =>
 (zCY p_e.fFields [76,97,115,116,45,77,111,100,105,102,105,101,100]).bind fun d =>
 (bif d.2.2 then
  (xapp l1 ([⟨[73,102,45,77,111,100,105,102,105,101,100,45,83,105,110,99,101],d.1⟩]:List GField)).bind fun l40=>some l40
 else
  some l1).bind fun l2 =>
 some (⟨p_q.fMethod,p_q.fTarget,p_q.fMinor,l2,p_q.fBody⟩:GRequest)
end Go.Eng.Pure
namespace Go.Proofs
open Go Go.Eng Go.VI Go.Eng.Pure
theorem r73:FR.ok (U:=UU) Tryz.prog ⟨73,[(.sl (.st 138)),(.sl .str)],.st 138,138,fun x=>zBt x.1 x.2⟩:=mkR (rcons r128 anil) (.n .e (.n .e (.n (.n .e (.lp ⟨[iR 5 (.sl (.st 138)) 138,iS 12 .int],some [],[]⟩ (some ⟨[iR 5 (.sl (.st 138)) 138],some [],[]⟩) false .e)) .e))) Tryz.func73
theorem e50:FK ⟨50,[.str,.str],[.st 65,.int],fun x=>zFc x.1 x.2⟩:=mk (fcons e103 (fcons c102 (fcons c101 (fcons c100 (fcons c99 (fcons c98 (fcons c97 anil))))))) (.n .e (.n .e (.n (.j ⟨[iS 6 .str,iS 1 .str],none,[]⟩ true .e) (.n .e (.n .e (.n .e (.n .e (.n (.n .e (.j ⟨[iS 8 .str],none,[]⟩ false .e)) .e)))))))) Tryz.func50
theorem e152:FK ⟨152,[.st 65,.str],[.st 65,.boo],fun x=>zFJ x.1 x.2⟩:=mk (fcons e50 (fcons c57 (fcons c99 (fcons c97 anil)))) (.e) Tryz.func152
theorem e91:FK ⟨91,[.st 65,.st 92],[.sl .str],fun x=>zFD x.1 x.2⟩:=mk (fcons c153 (fcons e152 (fcons c49 (fcons c35 anil)))) (.n .e (.n .e (.n (.n .e (.un 4 (.n .e (.n .e (.n (.n (.n .e (.n .e (.n .e (.n .e (.n .e (.j ⟨[iR 5 (.sl .str) 9],some [],[]⟩ false .e)))))) .e) .e))))) .e))) Tryz.func91
theorem e42:FK ⟨42,[.st 63,.st 87],[.st 63],fun x=>zCO x.1 x.2⟩:=mk (fcons c76 (fcons c75 (fcons c74 (rcons r73 anil)))) (.n .e (.n .e (.n (.n .e (.n .e (.j ⟨[iR 5 (.sl (.st 138)) 138],some [],[]⟩ false .e))) (.n (.n .e (.n .e (.j ⟨[iR 5 (.sl (.st 138)) 138],some [],[]⟩ false .e))) .e)))) Tryz.func42
theorem zFQ {w0 ws : World} {H0 Hs : Hp} {L2 : List Ent} (S : St w0 H0 ws Hs L2) {p : Nat} {en : Ent} {v : Value} {xs zs : List Str} (hp : L2[p]? = some en) (RM : MR (α := Str) Hs en 9 v xs) (h : xapp [] xs = some zs) :
  ConS Tryz.prog 31 [v] w0 H0 ws Hs L2 (fun H' v' L'=>L'=[]∧Sl (α:=Str) H' v' zs):=by
 refine ConS.mk (N:=8) Tryz.func31 rfl rfl kr rfl ?_;refine WP.s ?_;refine WP.gz ?_;refine WL.wz (R.as (v:=.slice none 0 0) rfl) ?_;refine WL.e ?_;refine WP.s ?_;refine WP.s ?_;refine WP.gz ?_;refine WL.wz (R.mv (v:=v) rfl) ?_;have hv:(v=.slice none 0 0∧xs=[])∨∃ a n c,v=.slice (some a) n c:=by
  rcases RM with ⟨h1,h2,_⟩ | ⟨b,cap,cur,cs,h1,_⟩
  ·exact .inl ⟨h1,h2⟩
  ·exact .inr ⟨_,_,_,h1⟩
 rcases hv with ⟨hv,hx⟩ | ⟨a,n,c,hv⟩
 ·refine WL.wz (R.eqNil hv rfl Tryz.underlying33) ?_
  refine WL.e ?_;refine WP.condT rfl rfl ?_;refine WP.s ?_;refine WP.gz ?_;refine WL.wz (R.as (v:=.slice none 0 0) rfl) ?_;refine WL.e ?_;subst hx;obtain rfl:=oJ h;refine WP.ret ?_;exact OutS.one (L':=[]) rfl (Hp.le.refl Hs) S rfl ⟨rfl,Sl.nil⟩
 ·refine WL.wz (R.eqNil hv rfl Tryz.underlying33) ?_
  refine WL.e ?_;refine WP.condF rfl rfl ?_;refine WP.skip ?_;refine WP.s ?_;refine WP.gz ?_;refine W.bslice (α:=Str) (n:=0) (ps:=[]) [] [] S el33 rfl rfl rfl (by decide) (fun i v x h=>by cases h) ?_;intro u w1 H1 hle1 R1 S;refine WL.wz (R.mv (v:=v) rfl) ?_;refine W.appMr (α:=Str) (i:=0) (j:=p+1) S el33 rfl (by simpa using hp) rfl rfl R1 (RM.mono hle1) h ?_;intro v2 w2 H2 hle2 R2 S;refine WL.wz (R.as (v:=v2) rfl) ?_;refine WL.e ?_;refine WP.ret ?_;exact OutS.one (L':=[]) rfl (Hp.le.trans hle1 hle2) (S.drop _ (List.sublist_cons_self ..)) rfl ⟨rfl,R2⟩
theorem clX {U:UV}:SpecOk Tryz.prog 31 (zRq (U:=U) 9):=cl_ok fun S _ _ _ _ _ hp hM hz=>zFQ S hp hM hz
end Go.Proofs
namespace Go.Eng
open Go
variable {α:Type}
theorem zJA (l:List α) (n:Nat):xnth l (n:Int)=l[n]?:=by
 unfold xnth; grind
theorem zDr {α:Type} {l:List α} {i:Int} (h0:0≤i) (h1:i.toNat<l.length):xnth l i=some l[i.toNat]:=by
 unfold xnth; grind
theorem zEW (a:α) (l:List α):xnth (a :: l) 0=some a:=rfl
theorem zOY (l:List α) (a:α):xnth (l++[a]) (l.length:Int)=some a:=by
 rw [zJA]; simp
theorem zMZ {α:Type} {l:List α} {i j:Int} (h:0≤i∧i≤j∧j≤l.length):xsub l i j=some ((l.take j.toNat).drop i.toNat):=by
 unfold xsub; rw [if_pos h]
theorem zB7 {α:Type} {l:List α} {i j:Nat} (h:i≤j∧j≤l.length):xsub l (i:Int) (j:Int)=some ((l.take j).drop i):=by
 grind [zMZ]
theorem zKR {α:Type} {l k:List α} (h:l.length+k.length≤big):xapp l k=some (l++k):=by
 unfold xapp; rw [if_pos h]
theorem zPG {a b:Str} (h:a.length+b.length≤2*big):xcat a b=some (a++b):=by
 grind [xcat,Nat.ble_eq_true_of_le,big]
theorem zB2 {n:Int} (h0:-1000000000000000000≤n) (h:n≤1000000000000000000):wr n=n:=wr_eq ⟨om,om⟩
theorem zAG (x y:α):(bif true then x else y)=x:=rfl
theorem zAD (x y:α):(bif false then x else y)=y:=rfl
theorem zAA {β:Type} (a:α) (f:α→Option β):(some a).bind f=f a:=rfl
theorem zLu {ρ : Type} (body : Int → Option (Int ⊕ ρ)) (l : List α) (bad : α → Bool) (stop done : ρ)
    (h:∀ (n:Nat) (hn:n<l.length),body (n:Int)=some (if bad l[n]=true then .inr stop else .inl ((n:Int)+1)))
    (h':body (l.length:Int)=some (.inr done)):zAB body 0=some (if l.any bad then stop else done):=by
  have key:∀ (k n:Nat),n+k=l.length→zAB body (n:Int)=some (if (l.drop n).any bad then stop else done):=by
    intro k
    induction k with
    | zero =>
      grind [zAC]
    | succ k ih =>
      intro n hn;have hlt:n<l.length:=by omega
      have hb:=h n hlt
      grind [lD,zAC,zAH]
  simpa using key l.length 0 om
def rtrim (p:UInt8→Bool) (s:Str):Str:=(s.reverse.dropWhile p).reverse
def ltrim (p:UInt8→Bool) (s:Str):Str:=s.dropWhile p
theorem zSB (p:UInt8→Bool) (s:Str) (c:UInt8):rtrim p (s++[c])=if p c then rtrim p s else s++[c]:=by
 grind [rtrim,List.dropWhile_cons]
theorem zTE (p:UInt8→Bool) (s:Str):(rtrim p s).length≤s.length:=by
 grind [rtrim,List.dropWhile_sublist]
theorem zT4 (p:UInt8→Bool) (s:Str):(ltrim p s).length≤s.length:=(List.dropWhile_sublist p).length_le
theorem zPf (body : Str → Option (Str ⊕ Str)) (p : UInt8 → Bool) (B : Nat) (h1 : ∀ (s : Str) (c : UInt8), s.length + 1 ≤ B → body (s ++ [c]) = some (if p c then .inl s else .inr (s ++ [c]))) (h0 : body [] = some (.inr [])) :
  ∀ (n:Nat) (s:Str),s.length=n→s.length≤B→zAB body s=some (rtrim p s):=by
 intro n
 induction n with
 | zero =>
  intro s hs _;obtain rfl:=List.eq_nil_of_length_eq_zero hs;rw [zAC h0]; rfl
 | succ n ih =>
  intro s hs hB;rcases List.eq_nil_or_concat s with rfl | ⟨t,c,rfl⟩
  all_goals grind [zSB,zAH,zAC]
theorem zL2 (body : Str → Option (Str ⊕ Str)) (p : UInt8 → Bool) (h1 : ∀ (s : Str) (c : UInt8), body (c :: s) = some (if p c then .inl s else .inr (c :: s))) (h0 : body [] = some (.inr [])) :
  ∀ (s:Str),zAB body s=some (ltrim p s):=by
 intro s
 induction s with
 | nil=>rw [zAC h0]; rfl
 | cons c s ih =>
  grind [ltrim,List.dropWhile_cons,zAH,zAC]
theorem zNC (s:Str) (c:UInt8):xnth (s++[c]) (((s++[c]).length:Int) - 1)=some c:=by
 grind [zOY]
theorem zSY (s:Str) (c:UInt8):xsub (s++[c]) 0 (((s++[c]).length:Int) - 1)=some s:=by
 have e:(((s++[c]).length:Int) - 1)=(s.length:Int):=by simp
 rw [e,zMZ ⟨by omega,by omega,by simp; omega⟩];simp
theorem zW9 (s:List α) (h:s.length≤4*big):wr ((s.length:Int) - 1)=(s.length:Int) - 1:=by grind [zB2,big]
end Go.Eng
namespace Go.Eng
open Go
def run {α σ ρ:Type} (f:σ→α→σ ⊕ ρ) (fin:σ→ρ):List α→σ→ρ
 | [],st=>fin st
 | x :: l,st=>match f st x with | .inl st'=>run f fin l st' | .inr r=>r
variable {n:Nat} {α:Type}
theorem zS8 {S σ ρ : Type} (mk : σ → Int → S) (l : List α) (f : σ → α → σ ⊕ ρ) (fin : σ → ρ) (body : S → Option (S ⊕ ρ)) (I : Nat → σ → Prop)
    (h:∀ (n:Nat) (hn:n<l.length) st,I n st→body (mk st (n:Int))=some (match f st l[n] with | .inl st'=>.inl (mk st' ((n+1:Nat):Int)) | .inr r=>.inr r)∧∀ st',f st l[n]=.inl st'→I (n+1) st')
    (h':∀ st,I l.length st→body (mk st (l.length:Int))=some (.inr (fin st))) :
    ∀ (k n:Nat) (st:σ),n+k=l.length→I n st→zAB body (mk st (n:Int))=some (run f fin (l.drop n) st):=by
  intro k
  induction k <;> grind [zAC,run,lD,zAH]
theorem zHN {S σ ρ : Type} (mk : σ → Int → S) (l : List α) (f : σ → α → σ ⊕ ρ) (fin : σ → ρ) (body : S → Option (S ⊕ ρ)) (I : Nat → σ → Prop) (st : σ) (hI : I 0 st)
    (h:∀ (n:Nat) (hn:n<l.length) st,I n st→body (mk st (n:Int))=some (match f st l[n] with | .inl st'=>.inl (mk st' ((n+1:Nat):Int)) | .inr r=>.inr r)∧∀ st',f st l[n]=.inl st'→I (n+1) st')
    (h':∀ st,I l.length st→body (mk st (l.length:Int))=some (.inr (fin st))) :
    zAB body (mk st 0)=some (run f fin l st):=by
  have:=zS8 mk l f fin body I h h' l.length 0 st om hI
  simpa using this
theorem zHR {S σ ρ : Type} (mk : σ → Int → S) (l : List α) (f : σ → α → σ) (fin : σ → ρ) (body : S → Option (S ⊕ ρ)) (I : Nat → σ → Prop) (st : σ) (hI : I 0 st)
    (h:∀ (n:Nat) (hn:n<l.length) st,I n st→body (mk st (n:Int))=some (.inl (mk (f st l[n]) ((n+1:Nat):Int)))∧I (n+1) (f st l[n]))
    (h':∀ st,I l.length st→body (mk st (l.length:Int))=some (.inr (fin st))) :
    zAB body (mk st 0)=some (fin (l.foldl f st)):=by
  have e:∀ (l:List α) st,run (fun s x=>.inl (f s x)) fin l st=fin (l.foldl f st):=by
    intro l
    induction l with
    | nil=>intro st; rfl
    | cons x l ih=>intro st; exact ih _
  rw [← e];exact zHN mk l (fun s x=>.inl (f s x)) fin body I st hI (fun n hn st hI=>⟨(h n hn st hI).1,fun st' hs=>gR⟩) h'
theorem zNr {β:Type} (g:α→List β) (l:List α) (acc:List β):l.foldl (fun a x=>a++g x) acc=acc++l.flatMap g:=by
 induction l generalizing acc <;> grind
theorem zOz (n m:Nat):decide ((n:Int)≤(m:Int))=decide (n≤m):=by
 grind
theorem zAV {m:Nat} (h:n<m):decide ((n:Int)<(m:Int))=true:=decide_eq_true om
theorem zC0 {m:Nat} (h:m≤n):decide ((n:Int)<(m:Int))=false:=decide_eq_false om
theorem zPX {m:Nat} (h:n≤m):decide ((n:Int)≤(m:Int))=true:=decide_eq_true om
theorem zWK {m:Nat} (h:m<n):decide ((n:Int)≤(m:Int))=false:=decide_eq_false om
theorem zAF {α:Type} {l:List α} (h:n<l.length):xnth l (n:Int)=some l[n]:=by grind [zJA]
theorem zXH (h:n≤4*big):wr ((n:Int)+1)=((n+1:Nat):Int):=by
 grind [zB2,big]
theorem zV6 (h:n≤4*big):wr (n:Int)=(n:Int):=by grind [zB2,big]
theorem zCS {α:Type} {l:List α} {i:Nat} (h:i≤l.length):xsub l (i:Int) (l.length:Int)=some (l.drop i):=by
 grind [zB7]
theorem zG4 {α:Type} {l:List α} {j:Nat} (h:j≤l.length):xsub l 0 (j:Int)=some (l.take j):=by
 have:=zB7 (l:=l) (i:=0) (j:=j) ⟨om,h⟩
 simpa using this
end Go.Eng
namespace Go.Eng
open Go
theorem zCg {S ρ:Type} (st:Nat→S) (N:Nat) (r:ρ) (body:S→Option (S ⊕ ρ)) (h:∀ n,n<N→body (st n)=some (.inl (st (n+1)))) (h':body (st N)=some (.inr r)):zAB body (st 0)=some r:=by
 have key:∀ k n,n+k=N→zAB body (st n)=some r:=by
  intro k
  induction k <;> grind [zAC,zAH]
 simp_all
theorem wrs {n:Nat} (h:n≤4*1073741824):wr ((n:Int)+1)=((n+1:Nat):Int):=zXH (by simp only [big] at *; omega)
theorem wrn {n:Nat} (h:n≤4*1073741824):wr (n:Int)=(n:Int):=zV6 (by simp only [big] at *; omega)
theorem zA0 {α:Type} {l k:List α} (h:l.length≤64*1073741824) (h':k.length≤64*1073741824):xapp l k=some (l++k):=zKR (by simp only [big] at *; omega)
theorem zCh {a b:Str} (h:a.length≤64*1073741824) (h':b.length≤64*1073741824):xcat a b=some (a++b):=zPG (by simp only [big] at *; omega)
theorem zAa {α:Type} {l:List α} {n:Nat} (h:n<l.length):l.take (n+1)=l.take n++[l[n]]:=by
 simp_all
theorem eqI (a b:Nat):(((a:Int)==(b:Int)):Bool)=(a==b):=by
 grind
theorem neI (a b:Nat):(((a:Int) !=(b:Int)):Bool)=(a !=b):=by
 grind
theorem zDk {α:Type} (x:α):[x].length≤64*1073741824:=by grind
end Go.Eng
namespace Go.Eng.Pure
open Go Go.Eng
def lowB (c:UInt8):UInt8:=if decide (65≤c)&&decide (c≤90) then c+32 else c
def lower (s:Str):Str:=s.map lowB
theorem zBn (s:Str):(lower s).length=s.length:=by simp [lower]
theorem add97 (c:UInt8):(c+97) - 65=c+32:=by
 grind
theorem zXI (s:Str) (n:Nat) (h:n<s.length):xnth ((s.take n).map lowB++s.drop n) (n:Int)=some s[n]:=by
 grind [zJA]
theorem zXt (s:Str) (n:Nat) (h:n<s.length) (c:UInt8):((s.take n).map lowB++s.drop n).set n c=(s.take n).map lowB++c :: s.drop (n+1):=by
 have e:((s.take n).map lowB).length=n:=by grind
 rw [List.set_append_right _ _ om,lD h,e,Nat.sub_self,List.set_cons_zero]
theorem zQz (s:Str) (n:Nat) (h:n<s.length):(s.take n).map lowB++lowB s[n] :: s.drop (n+1)=(s.take (n+1)).map lowB++s.drop (n+1):=by
 grind [zAa]
theorem zBH (s:Str) (hs:s.length≤1073741824):zAO s=some (lower s):=by
 have:=zCg (fun n=>((n:Int),(s.take n).map lowB++s.drop n)) s.length (lower s) (zDq s) ?_ ?_
 ·unfold zAO
  grind
 ·intro n hn
  simp only [zDq,zAV hn,zAG,zXI s n hn,zAA,wrs (show n≤4*1073741824 by omega),add97,Int.toNat_natCast];cases hc:(decide (65≤s[n])&&decide (s[n]≤90)) with
  | true =>
   grind [zXt,zQz,lowB]
  | false =>
   rw [zAD,← zQz s n hn];simp [lowB,hc]
 ·simp only [zDq,zC0 (nR s.length),zAD,List.take_length,List.drop_length,List.append_nil]
  rfl
def fold (a b:Str):Bool:=a.length==b.length&&lower a==lower b
def smF (f:GField):Prop:=f.fName.length≤1073741824∧f.fValue.length≤1073741824
def getF (l:List GField) (name:Str):List Str:=(l.filter fun f=>fold f.fName name).map (·.fValue)
theorem zLY (name:Str) (hn:name.length≤1073741824) (f:GField) (hf:smF f):zBR f (lower name)=some (fold f.fName name):=by
 grind [zBR,zBH,zBn,fold]
theorem zMM (l:List GField) (keep:GField→Option Bool) (p:GField→Bool) (hl:l.length≤1073741824) (h:∀ f ∈ l,keep f=some (p f)):zBl l keep=some (l.filter p):=by
 have:=zCg (fun n=>((l.take n).filter p,(n:Int))) l.length (l.filter p) (zBS l keep) ?_ ?_
 ·unfold zBl
  grind
 ·intro n hn
  have hln:((l.take n).filter p).length≤n:=nT (List.length_filter_le _ _) (by simp; omega);simp only [zBS,zAV hn,zAG,zAF hn,zAA,h _ (lM hn),wrs (show n≤4*1073741824 by omega),zAa hn,List.filter_append];rw [zA0 om (zDk _)]
  grind
 grind [zBS]
theorem zPA (l:List GField) (name:Str) (hl:l.length≤1073741824) (hf:∀ f ∈ l,smF f) (hn:name.length≤1073741824):zCd l name=some (getF l name):=by
 unfold zCd;rw [zBH _ hn];simp only [zAA];rw [zMM l _ (fun f=>fold f.fName name) hl (fun f h=>zLY name hn f (hf f h))];simp only [zAA];have hk:(l.filter fun f=>fold f.fName name).length≤1073741824:=nT (List.length_filter_le _ _) hl;generalize hg:(l.filter fun f=>fold f.fName name)=k at hk ⊢;have:=zCg (fun n=>((k.take n).map (·.fValue),(n:Int))) k.length (k.map (·.fValue)) (zDw k) ?_ ?_
 ·have e:(([]:List Str),(0:Int))=((k.take 0).map (·.fValue),((0:Nat):Int)):=by simp
  rw [e,this];simp [getF,hg]
 ·intro n hn
  simp only [zDw,zAV hn,zAG,zAF hn,zAA,wrs (show n≤4*1073741824 by omega),zAa hn,List.map_append];rw [zA0 (by simp; omega) (zDk _)];rfl
 grind [zDw]
theorem zNh (l:List GField) (name:Str):(getF l name).length≤l.length:=by grind [getF]
theorem zGJ (l:List GField) (name:Str) (B:Nat) (hf:∀ f ∈ l,f.fValue.length≤B):∀ v ∈ getF l name,v.length≤B:=by
 grind [getF]
def bl (c:UInt8):Bool:=c==32||c==9
def trim (s:Str):Str:=ltrim bl (rtrim bl s)
theorem zQr (s:Str) (c:UInt8):decide (0<(((c :: s).length:Nat):Int))=true:=decide_eq_true gR
theorem zI8 (s:Str):(trim s).length≤s.length:=nT (zT4 _ _) (zTE _ _)
theorem zYj (c:UInt8):([32,9]:Str).contains c=bl c:=by
 grind [bl]
theorem zPe (s:Str) (hs:s.length≤1073741824):zB1 s [32,9]=some (rtrim bl s):=by
 unfold zB1;rw [zPf (zBY [32,9]) bl 1073741824 ?_ rfl _ s rfl hs]
 all_goals grind [zBY,zW9,big,zNC,zAd,zSY,bl]
theorem zP1 (s:Str):zBe s [32,9]=some (ltrim bl s):=by
 unfold zBe
 grind [zL2,zCa,zQr,xsub,zCS,zEW,zAd,zYj]
theorem zJh (s:Str) (hs:s.length≤1073741824):zCu s=some (trim s):=by
  unfold zCu zGy;have e1:(([32,9]:Str)==[])=false:=rfl;have e2:(((([32,9]:Str).length:Nat):Int)==1)=false:=rfl;have e3:strings_makeASCIISet [32,9]=some ():=rfl;rw [e1,Bool.or_false];cases hn:(s==[]) with
  | true => obtain rfl : s = [] := by simpa using hn
            rfl
  | false =>
    simp only [zAD,e2,zAA,e3,zPe s hs];rw [zP1]; rfl
def step (st:Nat) (c:UInt8):Nat:=if st=2 then 1 else if st=1∧c=92 then 2 else if c=34 then 1 - st else st
def segs (a:UInt8):Nat→Str→Str→List Str
 | _,cur,[]=>[cur]
 | st,cur,c :: r=>if st=0∧c=a then cur :: segs a 0 [] r else segs a (step st c) (cur++[c]) r
def cutS (a:UInt8) (s:Str):List Str:=segs a 0 [] s
def mem64 (l:List Str):List Str:=((l.map trim).filter fun x=>x !=[]).take 64
def split (s:Str):List Str:=mem64 (cutS 44 s)
theorem zW0 {st:Nat} {c:UInt8} (h:st≤2):step st c≤2:=by unfold step; grind
theorem zO3 (st:Nat) (c:UInt8) (h:st≤2):zJ5 (st:Int) c=some (step st c:Int):=by
  unfold zJ5 step
  match st,h with
  | 0,_ =>
    cases hc:(c==34) with
    | true => obtain rfl : c = 34 := by simpa using hc
              rfl
    | false=>grind
  | 1,_ =>
    cases hb:(c==92) with
    | true=>grind
    | false =>
      have hb':c≠92:=by simpa using hb
      cases hc:(c==34) with
      | true => obtain rfl : c = 34 := by simpa using hc
                rfl
      | false=>grind
  | 2,_=>rfl
def addM (out:List Str) (l:List Str):List Str:=(out++(l.map trim).filter fun x=>x !=[]).take 64
theorem zO6 {out:List Str} (h:64≤out.length) (l:List Str):addM out l=out.take 64:=by
 unfold addM; grind
theorem zPM (out:List Str) (x:Str) (l:List Str):addM out (x :: l)=addM (if trim x !=[] then out++[trim x] else out) l:=by
 unfold addM
 grind
theorem zQc {out:List Str} (h:out.length<64) (x:Str):(if x !=[] then out++[x] else out).length≤64:=by
 grind
theorem zG2 (s:Str) (f i:Nat) (hf:f≤i) (hi:i<s.length):(s.take i).drop f++[s[i]]=(s.take (i+1)).drop f:=by
 grind [zAa]
theorem zSS (s : Str) (hs : s.length ≤ 1073741824) : ∀ (k i f st : Nat) (out : List Str), i + k = s.length → f ≤ i → st ≤ 2 → out.length ≤ 64 →
  zAB (zA2 s) (out,(st:Int),(f:Int),(i:Int))=some (addM out (segs 44 st ((s.take i).drop f) (s.drop i))):=by
 intro k
 induction k with
 | zero =>
  intro i f st out hk hf hst ho;obtain rfl:i=s.length:=by omega
  by_cases hfull:out.length<64
  ·have e0:decide ((out.length:Int)<64)=true:=by simp; omega
   have e2:wr (((s.length:Nat):Int)+1)=((s.length+1:Nat):Int):=wrs om;have hend:∀ (o:List Str) (st f:Int),zAB (zA2 s) (o,st,f,((s.length+1:Nat):Int))=some o:=by
    intro o st f;refine zAC ?_;simp only [zA2,zWK (Nat.lt_succ_self s.length),Bool.false_and,zAD]
   have hsub:xsub s (f:Int) (s.length:Int)=some (s.drop f):=zCS hf;have hb:zA2 s (out,(st:Int),(f:Int),(s.length:Int))=some (.inl (if trim (s.drop f) !=[] then out++[trim (s.drop f)] else out,(st:Int),((s.length+1:Nat):Int),((s.length+1:Nat):Int))):=by
    simp only [zA2,zPX (nR s.length),e0,Bool.and_self,zAG,zC0 (nR s.length),zAD,zAA,hsub,zJh (s.drop f) (by simp; omega),e2];rw [zA0 om (zDk _)]
    grind
   grind [zAH,segs,addM,zQc,List.take_of_length_le]
  grind [zAC,zO6,zA2]
 | succ k ih =>
  intro i f st out hk hf hst ho;have hi:i<s.length:=by omega
  by_cases hfull:out.length<64
  ·have e0:decide ((out.length:Int)<64)=true:=by simp; omega
   have e2:wr ((i:Int)+1)=((i+1:Nat):Int):=wrs om;rw [lD hi];have hcond:((bif (st:Int) !=0 then some true else some (s[i] !=44)).bind fun b33=>some b33)=some (!(decide (st=0∧s[i]=44))):=by
    match st with
    | 0=>grind
    | n+1 =>
     grind
   by_cases hc:st=0∧s[i]=44
   ·have hsub:xsub s (f:Int) (i:Int)=some ((s.take i).drop f):=zB7 ⟨hf,om⟩
    have hb:zA2 s (out,(st:Int),(f:Int),(i:Int))=some (.inl (if trim ((s.take i).drop f) !=[] then out++[trim ((s.take i).drop f)] else out,(st:Int),((i+1:Nat):Int),((i+1:Nat):Int))):=by
     simp only [zA2,zPX (Nat.le_of_lt hi),e0,Bool.and_self,zAG,zAV hi,zAF hi,zAA];rw [hcond];simp only [hc,and_self,decide_true,Bool.not_true,zAA,zAD,hsub,zJh ((s.take i).drop f) (by simp; omega),e2];rw [zA0 om (zDk _)]
     grind
    rw [zAH hb,ih (i+1) (i+1) st _ om (nR _) hst (zQc om _)]
    grind [segs,zPM]
   ·have hb : zA2 s (out, (st : Int), (f : Int), (i : Int)) = some (.inl (out, ((step st s[i] : Nat) : Int), (f : Int), ((i + 1 : Nat) : Int))) := by
     simp_all [zA2,Nat.le_of_lt,zAF,zO3]
    rw [zAH hb,ih (i+1) f _ out om om (zW0 hst) ho];rw [segs,if_neg hc,zG2 s f i hf hi]
  grind [zAC,zO6,zA2]
theorem zU7 (s:Str) (hs:s.length≤1073741824):zI0 s=some (split s):=by
 unfold zI0;have:=zSS s hs s.length 0 0 0 [] om (nR _) om sI;simp only [Int.natCast_zero,List.take_zero,List.drop_zero,List.drop_nil] at this;have e:zAB (zA2 s) ([],0,0,0)=some (addM [] (segs 44 0 [] s)):=this;rw [e]; rfl
theorem zNb (a:UInt8) (s:Str) (i f st:Nat) (h:s.length≤i):segs a st ((s.take i).drop f) (s.drop i)=[s.drop f]:=by
 grind [List.take_of_length_le,segs]
theorem zRQ (s : Str) (a : UInt8) (ha : a ≠ 34) (hs : s.length ≤ 1073741824) : ∀ (k i f : Nat) (q : Bool) (out : List Str), s.length ≤ i + k → i ≤ s.length + 1 → f ≤ i → f ≤ s.length → out.length ≤ f →
  ∃ (o:List Str) (g:Nat),zAB (zAg s a) (out,(f:Int),q,(i:Int))=some (o,(g:Int))∧g≤s.length∧o.length≤g∧o++[s.drop g]=out++segs a (if q then 1 else 0) ((s.take i).drop f) (s.drop i):=by
 intro k
 induction k with
 | zero =>
  intro i f q out hk hi hf hfs ho;refine ⟨out,f,zAC ?_,hfs,ho,?_⟩
  all_goals grind [zAg,zNb]
 | succ k ih =>
  intro i f q out hk hi hf hfs ho;by_cases hlt:i<s.length
  ·have e2:wr ((i:Int)+1)=((i+1:Nat):Int):=wrs om
   have e3:wr (((i+1:Nat):Int)+1)=((i+1+1:Nat):Int):=wrs om;rw [lD hlt];generalize hc:s[i]=c;have e1:xnth s (i:Int)=some c:=by rw [zAF hlt,hc]
   have esn:(s.take i).drop f++[c]=(s.take (i+1)).drop f:=by grind [zG2]
   cases q with
   | true =>
    by_cases h92:c=92
    ·subst h92
     have hb:zAg s a (out,(f:Int),true,(i:Int))=some (.inl (out,(f:Int),true,((i+1+1:Nat):Int))):=by
      grind [zAg]
     obtain ⟨o,g,h1,h2,h3,h4⟩:=ih (i+1+1) f true out om om om hfs ho;refine ⟨o,g,by rw [zAH hb]; exact h1,h2,h3,?_⟩;rw [h4];congr 1;have hseg:∀ r,segs a 1 ((s.take i).drop f) (92 :: r)=segs a 2 ((s.take (i+1)).drop f) r:=by
      intro r;rw [segs,if_neg sI,esn]; rfl
     rw [if_pos rfl,hseg];by_cases hlt2:i+1<s.length
     ·rw [lD hlt2,segs,if_neg sI,zG2 s f (i+1) om hlt2]; rfl
     grind [zNb]
    ·have h92':(c==92)=false:=by simpa using h92
     by_cases h34:c=34
     ·subst h34
      have hb:zAg s a (out,(f:Int),true,(i:Int))=some (.inl (out,(f:Int),false,((i+1:Nat):Int))):=by
       grind [zAg]
      obtain ⟨o,g,h1,h2,h3,h4⟩:=ih (i+1) f false out om om om hfs ho;refine ⟨o,g,by rw [zAH hb]; exact h1,h2,h3,?_⟩;rw [h4,if_pos rfl,segs,if_neg sI,esn]; rfl
     ·have h34':(c==34)=false:=by simpa using h34
      have hb:zAg s a (out,(f:Int),true,(i:Int))=some (.inl (out,(f:Int),true,((i+1:Nat):Int))):=by
       grind [zAg]
      obtain ⟨o,g,h1,h2,h3,h4⟩:=ih (i+1) f true out om om om hfs ho
      grind [zAH,step,segs]
   | false =>
    by_cases h34:c=34
    ·subst h34
     have hb:zAg s a (out,(f:Int),false,(i:Int))=some (.inl (out,(f:Int),true,((i+1:Nat):Int))):=by
      grind [zAg]
     obtain ⟨o,g,h1,h2,h3,h4⟩:=ih (i+1) f true out om om om hfs ho;refine ⟨o,g,by rw [zAH hb]; exact h1,h2,h3,?_⟩;rw [h4,if_pos rfl,if_neg sI,segs,if_neg (by simp [Ne.symm ha]),esn]; rfl
    ·have h34':(c==34)=false:=by simpa using h34
     by_cases hca:c=a
     ·subst hca
      have hsub:xsub s (f:Int) (i:Int)=some ((s.take i).drop f):=zB7 ⟨hf,om⟩;have hb:zAg s c (out,(f:Int),false,(i:Int))=some (.inl (out++[(s.take i).drop f],((i+1:Nat):Int),false,((i+1:Nat):Int))):=by
       grind [zAg,zA0]
      obtain ⟨o,g,h1,h2,h3,h4⟩:=ih (i+1) (i+1) false (out++[(s.take i).drop f]) om om om om gR
      grind [zAH,segs]
     ·have hca':(c==a)=false:=by simpa using hca
      have hb:zAg s a (out,(f:Int),false,(i:Int))=some (.inl (out,(f:Int),false,((i+1:Nat):Int))):=by
       grind [zAg]
      obtain ⟨o,g,h1,h2,h3,h4⟩:=ih (i+1) f false out om om om hfs ho
      grind [zAH,step,segs]
  ·refine ⟨out,f,zAC ?_,hfs,ho,?_⟩
   all_goals grind [zAg,zNb]
theorem zYf (s:Str) (a:UInt8) (ha:a≠34) (hs:s.length≤1073741824):zME s a=some (cutS a s):=by
 obtain ⟨o,g,h1,h2,h3,h4⟩:=zRQ s a ha hs s.length 0 0 false [] om om om om sI
 grind [zME,zCS,zA0,cutS]
theorem zP2 (a:UInt8) (B:Nat):∀ (s:Str) (st:Nat) (cur:Str),cur.length+s.length≤B→(∀ x ∈ segs a st cur s,x.length≤B)∧(segs a st cur s).length≤s.length+1
 | [],st,cur,h=>by grind [segs]
 | c :: r,st,cur,h=>by
  have h':cur.length+(r.length+1)≤B:=h;unfold segs;split
  ·have ih:=zP2 a B r 0 [] (by simp; omega)
   grind
  ·have ih:=zP2 a B r (step st c) (cur++[c]) gR
   grind
theorem zNm (a:UInt8) (s:Str):(∀ x ∈ cutS a s,x.length≤s.length)∧(cutS a s).length≤s.length+1:=by
 have:=zP2 a s.length s 0 [] sI;exact this
theorem zPD (s:Str):(split s).length≤64:=by
 unfold split mem64; grind
theorem zQq (s:Str):∀ x ∈ split s,x.length≤s.length:=by
 intro x hx;have h1:=List.mem_of_mem_take hx
 grind [zI8,zNm]
def allM (l:List GField) (name:Str):List Str:=((getF l name).flatMap split).take 64
theorem zVR (v:List Str):(v.flatMap split).length≤64*v.length:=by
 induction v <;> grind [zPD]
theorem zSs (v:List Str) (n:Nat) (h:n<v.length):(v.take (n+1)).flatMap split=(v.take n).flatMap split++split v[n]:=by
 grind [zAa]
theorem zIH (l:List GField) (name:Str) (hl:l.length≤1073741824) (hf:∀ f ∈ l,smF f) (hn:name.length≤1073741824):zC3 l name=some (allM l name):=by
 unfold zC3;rw [zPA l name hl hf hn,zAA];have hv:=zNh l name;have hs:=zGJ l name 1073741824 (fun f h=>(hf f h).2);unfold allM;generalize getF l name=v at hv hs ⊢;have:=zCg (fun n=>((v.take n).flatMap split,(n:Int))) v.length (v.flatMap split) (zHt v) ?_ ?_
 ·have e:(([]:List Str),(0:Int))=((v.take 0).flatMap split,((0:Nat):Int)):=by simp
  rw [e,this,zAA];have e2:(if 64<(((v.flatMap split).length:Nat):Int) then (64:Int) else (((v.flatMap split).length:Nat):Int))=((min 64 (v.flatMap split).length:Nat):Int):=by
   split <;> omega
  rw [e2,zG4 om,zAA];simp_all
 all_goals grind [zVR,zHt,zAF,zU7,wrs,zA0,zSs]
theorem zT9 (p:UInt8→Bool) (h:(List.range 256).all (fun n=>p (UInt8.ofNat n))=true) (c:UInt8):p c=true:=by
 have h1:=List.all_eq_true.1 h c.toNat (List.mem_range.2 c.toNat_lt);simp_all
def signs:Str:=[33,35,36,37,38,39,42,43,45,46,94,95,96,124,126]
def tokB (c:UInt8):Bool:=(((decide (97≤c))&&(decide (c≤122)))||((decide (65≤c))&&(decide (c≤90))))||((decide (48≤c))&&(decide (c≤57)))||signs.contains c
def tok (s:Str):Bool:=s.all tokB&&s !=[]
def txtB (c:UInt8):Bool:=((c==9)||((decide (32≤c))&&(decide (c≤126))))||(decide (128≤c))
def txt (s:Str):Bool:=s.all txtB
theorem zYD (c:UInt8):zI2 c=some (tokB c):=by
 have:=zT9 (fun c=>decide (zI2 c=some (tokB c))) (by decide +kernel) c
 simpa using this
theorem zII (l : Str) (hl : l.length ≤ 1073741824) (bad : UInt8 → Bool) (body : Int → Option (Int ⊕ (Unit ⊕ Bool))) (r : Bool)
    (h:∀ (n:Nat) (hn:n<l.length),body (n:Int)=some (if bad l[n]=true then .inr (.inr r) else .inl (wr ((n:Int)+1)))) (h':body (l.length:Int)=some (.inr (.inl ()))) :
    zAB body 0=some (if l.any bad then .inr r else .inl ()):=by
  refine zLu body l bad (.inr r) (.inl ()) (fun n hn=>?_) h'
  grind [wrs]
theorem zLC (c:UInt8):zEN c=some (tokB c):=by
 unfold zEN tokB;rw [zII signs (by decide) (fun x=>x==c) (zEp c) true]
 ·grind
 ·intro n hn
  have e1:decide ((n:Int)<15)=true:=zAV hn
  grind [signs,zAF,zEp]
 ·rfl
theorem zBf (s:Str) (hs:s.length≤1073741824):zAZ s=some (tok s):=by
 unfold zAZ tok;rw [zII s hs (fun c=>!tokB c) (zG0 s) false]
 all_goals grind [zG0,zAF,zYD]
theorem zS1 (s:Str) (hs:s.length≤1073741824):zE1 s=some (tok s):=by
 unfold zE1 tok;rw [zII s hs (fun c=>!tokB c) (zE6 s) false]
 all_goals grind [zE6,zAF,zLC]
theorem zXf (c:UInt8):((bif decide (c<32) then some (c !=9) else some false).bind fun b17=>(bif b17 then some true else some (c==127)))=some (!txtB c):=by
 have:=zT9 (fun c=>decide (((bif decide (c<32) then some (c !=9) else some false).bind fun b17=>(bif b17 then some true else some (c==127)))=some (!txtB c))) (by decide +kernel) c
 simpa using this
theorem zIi (s:Str) (hs:s.length≤1073741824):zCw s=some (txt s):=by
 unfold zCw txt;rw [zII s hs (fun c=>!txtB c) (zF5 s) false]
 ·grind
 ·intro n hn
  have e:=zXf s[n]
  grind [zF5,zAF]
 grind [zF5]
def isD (c:UInt8):Bool:=(decide (48≤c))&&(decide (c≤57))
def dvI (c:UInt8):Int:=((c - 48).toNat:Int)
def cap (n:Int):Int:=if 2147483647<n then 2147483647 else n
theorem zTJ (c:UInt8) (h:isD c=true):0≤dvI c∧dvI c≤9:=by
 have:=zT9 (fun c=>!isD c||(decide (0≤dvI c)&&decide (dvI c≤9))) (by decide +kernel) c
 grind
theorem zX7 (c:UInt8):(bif decide (c<48) then some true else some (decide (57<c)))=some (!isD c):=by
 grind [isD]
def numL:Str→Int→Option Int
 | [],n=>some n
 | c :: r,n=>if isD c then numL r (cap (10*n+dvI c)) else none
def num (s:Str):Int×Bool:=match numL s 0 with | some n=>(n,s !=[]) | none=>(0,false)
theorem zPC {n:Int} (h:0≤n):0≤cap n∧cap n≤2147483647:=by grind [cap]
def zNd (n:Int) (c:UInt8):Int ⊕ (Int ⊕ (Int×Bool)):=if isD c then .inl (cap (10*n+dvI c)) else .inr (.inr (0,false))
theorem zTq:∀ (s:Str) (n:Int),run zNd .inl s n=match numL s n with | some n=>.inl n | none=>.inr (0,false)
 | [],n=>rfl
 | c :: r,n=>by
  unfold run numL zNd;cases isD c with
  | true=>exact zTq r _
  | false=>rfl
theorem zFb (s:Str) (hs:s.length≤1073741824):zA5 s=some (num s):=by
 unfold zA5 num;have h:=zHN (fun (n:Int) (i:Int)=>(n,i)) s zNd .inl (zEe s) (fun _ n=>0≤n∧n≤2147483647) 0 ⟨by decide,by decide⟩ ?_ ?_
 ·grind [zTq]
 ·intro n hn m hm
  unfold zNd;refine ⟨?_,fun st' h=>?_⟩
  ·simp only [zEe,zAV hn,zAG,zAF hn,zAA]
   have e:∀ x:Option Bool,x=some (!isD s[n])→(x.bind fun b22=>(bif b22 then some (.inr (.inr (0,false))) else some (.inl ((if 2147483647<(wr ((wr (10*m))+((s[n] - 48).toNat:Int))) then 2147483647 else (wr ((wr (10*m))+((s[n] - 48).toNat:Int)))),wr ((n:Int)+1))):Option ((Int×Int) ⊕ (Int ⊕ (Int×Bool)))))=some (if isD s[n]=true then .inl (cap (10*m+dvI s[n]),((n+1:Nat):Int)) else .inr (.inr (0,false))):=by
    intro x hx;rw [hx,zAA];cases hd:isD s[n] with
    | false=>rfl
    | true =>
     have hb:=zTJ _ hd;have e1:wr (10*m)=10*m:=zB2 (by omega) (by omega);have e2:((s[n] - 48).toNat:Int)=dvI s[n]:=rfl;rw [e1,e2,zB2 (n:=10*m+dvI s[n]) (by omega) (by omega),wrs (by omega)];rfl
   grind [zX7]
  ·split at h
   ·rename_i hd
    have hb:=zTJ _ hd;cases h;exact zPC (by omega)
   ·cases h
 grind [zEe]
def unqL:Str→Str→Option Str
 | [],acc=>some acc
 | c :: r,acc=>if c=34 then none else if c=92 then (match r with | []=>none | d :: r'=>unqL r' (acc++[d])) else unqL r (acc++[c])
def unqIn (s:Str):Str×Bool:=if txt s then (match unqL s [] with | some x=>(x,true) | none=>([],false)) else ([],false)
def unq (s:Str):Str×Bool :=
 match s with
 | a :: r=>if a=34∧r≠[]∧r.getLast?=some 34 then unqIn r.dropLast else ([],false)
 | []=>([],false)
def unqO:Option Str→(List UInt8) ⊕ (Str×Bool) | some x=>.inl x | none=>.inr ([],false)
theorem zVU (s:Str) (hs:s.length≤1073741824):∀ (k i:Nat) (out:Str),s.length≤i+k→i≤s.length→out.length≤i→zAB (zAz s) (out,(i:Int))=some (unqO (unqL (s.drop i) out)):=by
 intro k
 induction k with
 | zero =>
  intro i out hk hi ho;obtain rfl:i=s.length:=by omega
  rw [List.drop_length];refine zAC ?_;simp only [zAz,zC0 (nR s.length),zAD]; rfl
 | succ k ih =>
  intro i out hk hi ho;by_cases hlt:i<s.length
  ·have e2:wr ((i:Int)+1)=((i+1:Nat):Int):=wrs (by omega)
   rw [lD hlt];have ex:=zAF hlt;generalize s[i]=c at ex;unfold unqL;by_cases h34:c=34
   ·subst h34
    rw [if_pos rfl];refine zAC ?_;simp only [zAz,zAV hlt,zAG,ex,zAA]; rfl
   ·have h34':(c==34)=false:=by simpa using h34
    rw [if_neg h34];by_cases h92:c=92
    ·subst h92
     rw [if_pos rfl];by_cases hl2:i+1<s.length
     ·rw [lD hl2]
      have e3:(((i+1:Nat):Int)==(s.length:Int))=false:=by grind
      have e4:wr (((i+1:Nat):Int)+1)=((i+1+1:Nat):Int):=wrs (by omega);have hb:zAz s (out,(i:Int))=some (.inl (out++[s[i+1]],((i+1+1:Nat):Int))):=by
       simp only [zAz,zAV hlt,zAG,ex,zAA,h34',zAD,beq_self_eq_true,e2,e3,zAF hl2] <;> grind [zA0]
      grind [zAH]
     ·have e3:(((i+1:Nat):Int)==(s.length:Int))=true:=by grind
      rw [List.drop_eq_nil_of_le (by omega)];refine zAC ?_;simp only [zAz,zAV hlt,zAG,ex,zAA,h34',zAD,beq_self_eq_true,e2,e3]; rfl
    ·have h92':(c==92)=false:=by simpa using h92
     rw [if_neg h92];have hb:zAz s (out,(i:Int))=some (.inl (out++[c],((i+1:Nat):Int))):=by
      grind [zAz,zA0,zDk]
     grind [zAH]
  grind
theorem zLT (s:Str):(s.length<2∧unq s=([],false))∨∃ a m z,s=a :: (m++[z])∧unq s=if a=34∧z=34 then unqIn m else ([],false):=by
 match s with
 | []=>exact .inl ⟨by simp,rfl⟩
 | [a]=>grind [unq]
 | a :: b :: r =>
  obtain ⟨m,z,hm⟩:∃ m z,b :: r=m++[z]:=⟨(b :: r).dropLast,(b :: r).getLast (by simp),(List.dropLast_concat_getLast (by simp)).symm⟩
  grind [unq]
theorem zOR (a z : UInt8) (m : Str) (h : (a :: (m ++ [z])).length ≤ 1073741824) :
  decide ((((a :: (m++[z])).length:Nat):Int)<2)=false∧wr ((((a :: (m++[z])).length:Nat):Int) - 1)=((m.length+1:Nat):Int)∧xnth (a :: (m++[z])) ((m.length+1:Nat):Int)=some z∧xsub (a :: (m++[z])) 1 ((m.length+1:Nat):Int)=some m:=by
 have hlen:(a :: (m++[z])).length=m.length+2:=by simp
 grind [zB2,zJA,zB7]
theorem zK2 (s:Str) (hs:s.length≤1073741824):zCf s=some (unq s):=by
 rcases zLT s with ⟨h,hu⟩ | ⟨a,m,z,rfl,hu⟩
 ·grind [zCf]
 ·obtain ⟨e1,e2,e3,e4⟩:=zOR a z m hs
  have hm:m.length≤1073741824:=by simp at hs; omega
  rw [hu];simp only [zCf,e1,e2,e3,e4,zAD,zEW,zAA,zIi m hm];by_cases ha:a=34
  ·by_cases hz:z=34
   ·subst ha; subst hz
    have hl:=zVU m hm m.length 0 [] (by omega) (by omega) (by simp);have hl:zAB (zAz m) ([],0)=_:=hl;rw [hl];simp only [bne_self_eq_false,zAD,zAA,and_self,if_true,List.drop_zero];unfold unqIn;cases txt m
    ·rfl
    ·cases unqL m [] <;> rfl
   grind
  grind
theorem zHo (a b:Str) (ha:a.length≤1073741824) (hb:b.length≤1073741824):zAe a b=some (fold a b):=by
 grind [zAe,zBH,fold]
end Go.Eng.Pure
namespace Go.Eng
open Go
theorem zNI {α : Type} [DecidableEq α] (a b : List α) (body : Int → Option (Int ⊕ (Unit ⊕ Bool))) (hlen : a.length = b.length)
    (h:∀ (n:Nat) (hn:n<a.length) (hb:n<b.length),body (n:Int)=some (if a[n]=b[n] then .inl ((n+1:Nat):Int) else .inr (.inr false))) (h':body (a.length:Int)=some (.inr (.inl ()))) :
    zAB body 0=some (if a=b then .inl () else .inr false):=by
  have key:∀ (k n:Nat),n+k=a.length→zAB body (n:Int)=some (if a.drop n=b.drop n then .inl () else .inr false):=by
    intro k
    induction k with
    | zero =>
      grind [zAC]
    | succ k ih =>
      intro n hn;have hlt:n<a.length:=by omega
      have hlb:n<b.length:=by omega
      have hb:=h n hlt hlb;rw [lD hlt,lD hlb];by_cases he:a[n]=b[n]
      · rw [if_pos he] at hb
        have hi:(a[n] :: a.drop (n+1)=b[n] :: b.drop (n+1))↔(a.drop (n+1)=b.drop (n+1)):=by
          grind
        rw [zAH hb,ih (n+1) om];simp only [hi]
      grind [zAC]
  have:=key a.length 0 om
  simpa using this
end Go.Eng
namespace Go.Eng.Pure
open Go Go.Eng
theorem zLV (a b:List Str) (ha:a.length≤1073741824):zDW a b=some (a==b):=by
 unfold zDW;rw [neI];by_cases hl:a.length=b.length
 ·grind [zNI,zFm,zAF,wrs]
 ·have e:(a.length !=b.length)=true:=by simp [hl]
  have e2:(a==b)=false:=by
   grind
  rw [e,e2]; rfl
theorem zMo (a b:List Str) (ha:a.length≤1073741824):zDu a b=some (a==b):=by
 unfold zDu;rw [zLV a b ha]; rfl
def keepS (l:List Str):Bool:=!((l.take 21).any fun s=>decide (100<s.length))&&decide (l.length≤20)
end Go.Eng.Pure
