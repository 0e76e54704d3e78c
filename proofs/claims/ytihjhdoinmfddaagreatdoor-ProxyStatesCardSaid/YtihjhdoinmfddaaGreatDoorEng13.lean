/- A part. -/
import Derived.Test.YtihjhdoinmfddaaGreatDoorEng7
import Derived.Laws.StructEq
import Derived.ProofKit
import Derived.Lib.AsciiSet
import Derived.Lib.Join
import Derived.Lib.Bytealg
import Derived.Lib.TrimByte
set_option linter.unusedVariables false
set_option linter.unusedSimpArgs false
namespace Go.Eng
open Go
def Cl (w0:World) (H0 H:Hp) (L:List Ent):World→Prop:=fun w=>∃ H',H.le H'∧St w0 H0 w H' L
structure WQ (P:Program) (N:Frm) (ops:Array Oper) (C:World→Prop) (l:List Oper) (Q:Fr→Prop) (f:Fr):Prop where
 out:wpQuiet P ops C (fun a=>∃ f',a=act N f'∧Q f') l (act N f)
theorem zIn {P:Program} {ops:Array Oper} {C:World→Prop} {Q Q':Act→Prop} (hq:∀ a,Q a→Q' a):∀ (l:List Oper) (a:Act),wpQuiet P ops C Q l a→wpQuiet P ops C Q' l a:=by
 intro l
 induction l <;> grind [wpQuiet,Oper.quiet_mono]
theorem zJN {P:Program} {ops:Array Oper} {C:World→Prop} {Q:Act→Prop}:∀ (l l':List Oper) (a:Act),wpQuiet P ops C (wpQuiet P ops C Q l') l a→wpQuiet P ops C Q (l++l') a:=by
 intro l l'
 induction l <;> grind [wpQuiet,Oper.quiet_mono]
section
variable {P:Program} {N:Frm} {f:Fr} {w w0:World} {H0 H:Hp} {L:List Ent} {ops:Array Oper} {rest:List Oper} {C:World→Prop} {Q:Fr→Prop} {d:Nat} {od:Option Nat} {op:Op} {ty:TypeId} {pos:String} {af:Array Edge} {g:Option (Nat×Bool)}
theorem WP.quiet {id : Nat} {Q : Exit → Fr → World → Prop} (S : St w0 H0 w H L) (hm : P.follows .mixedOrders = true) (hB : Region.lexB .any ops = true)
    (h:WQ P N ops (Cl w0 H0 H L) ops.toList (fun f'=>∀ w' H',H.le H'→St w0 H0 w' H' L→Q .normal f' w') f):WP P N (.region id ops true) Q f w:=by
  refine wp_region_quiet (C:=Cl w0 H0 H L) hm hB ⟨H,Hp.le.refl _,S.drew⟩ (zIn (fun a ⟨f',ha,hq⟩ w' ⟨H',hle,S'⟩=>?_) _ _ h.out)
  grind
theorem WQ.nil (h:Q f):WQ P N ops C [] Q f:=⟨⟨f,rfl,h⟩⟩
variable {T:TypeId} {ks:List (Option Nat)} {v:Value} {x:Operand} {xs ys:List Value}
theorem WQ.val (hr:∀ w,C w→(execOp (ev N f) ⟨od,op,ty,pos,af,none⟩).run P w=.ok (.value v) w) (h:WQ P N ops C rest Q (updo f od v)):WQ P N ops C (⟨od,op,ty,pos,af,none⟩ :: rest) Q f:=by
 have h:=h.out;refine ⟨?_⟩;unfold wpQuiet;rw [if_pos (by simp [Region.wanted])];refine ⟨v,fun w hw=>?_,?_⟩
 ·unfold Oper.quietAt
  rw [zCR,hr w hw];exact ⟨rfl,rfl⟩
 ·rw [zCK]; exact h
theorem WQ.call {k : FuncId} {xs : List Operand} {ats : Array TypeId} {args : List Value} (ha : xs.map (ev N f) = args) (hC : ∀ w H', H.le H' → St w0 H0 w H' L → Con P k args w H' (fun _ u => u = v))
    (h:WQ P N ops (Cl w0 H0 H L) rest Q (updo f od v)):WQ P N ops (Cl w0 H0 H L) (⟨od,.call ⟨.value (.func k),xs.toArray,ats⟩,ty,pos,af,none⟩ :: rest) Q f:=by
  have h:=h.out;refine ⟨?_⟩;unfold wpQuiet;rw [if_pos (by simp [Region.wanted])];refine ⟨v,fun w ⟨H',hle,S⟩=>?_,?_⟩
  · unfold Oper.quietAt
    rw [zCR];have e1:(execOp (ev N f) ⟨od,.call ⟨.value (.func k),xs.toArray,ats⟩,ty,pos,af,none⟩)=callFunc k (#[]++xs.toArray.map (ev N f)++#[]):=rfl;have e:(#[]++xs.toArray.map (ev N f)++#[])=args.toArray:=by simp [ha]
    have c:=hC w H' hle S;rw [e1,e,c.1 w];exact ⟨rfl,Calls.mono c.2 fun e w'' ⟨u,H'',he,hp,hu⟩=>⟨by rw [he,hu],H'',hle.trans hp.le,S.call hp⟩⟩
  · rw [zCK]; exact h
theorem WQ.callv {k : FuncId} {xs : List Operand} {ats : Array TypeId} {args caps : List Value} (hx : ev N f x = .func (.func k) #[] caps.toArray) (ha : xs.map (ev N f) = args) (hC : ∀ w H', H.le H' → St w0 H0 w H' L → Con P k (args ++ caps) w H' (fun _ u => u = v))
    (h:WQ P N ops (Cl w0 H0 H L) rest Q (updo f od v)):WQ P N ops (Cl w0 H0 H L) (⟨od,.call ⟨.value x,xs.toArray,ats⟩,ty,pos,af,none⟩ :: rest) Q f:=by
  have h:=h.out;refine ⟨?_⟩;unfold wpQuiet;rw [if_pos (by simp [Region.wanted])];refine ⟨v,fun w ⟨H',hle,S⟩=>?_,?_⟩
  · unfold Oper.quietAt
    rw [zCR];have e1:(execOp (ev N f) ⟨od,.call ⟨.value x,xs.toArray,ats⟩,ty,pos,af,none⟩).run P w=(callFunc k (#[]++xs.toArray.map (ev N f)++caps.toArray)).run P w:=by
      simp [execOp,resolve,hx,Deferred.ofValue,invoke]
    have e:(#[]++xs.toArray.map (ev N f)++caps.toArray)=(args++caps).toArray:=by simp [ha]
    have c:=hC w H' hle S;rw [e1,e,c.1 w];exact ⟨rfl,Calls.mono c.2 fun e w'' ⟨u,H'',he,hp,hu⟩=>⟨by rw [he,hu],H'',hle.trans hp.le,S.call hp⟩⟩
  · rw [zCK]; exact h
theorem WQ.gyes {j t:Nat} {b b':Bool} (hj:(ops[j]?).bind (·.dst)=some t) (hv:ev N f (.tmp t)=boo b') (hb:b'=b) (h:WQ P N ops C (⟨od,op,ty,pos,af,none⟩ :: rest) Q f):WQ P N ops C (⟨od,op,ty,pos,af,some (j,b)⟩ :: rest) Q f:=by
 subst hb;have hy:=zEz (N:=N) hj hv;have h:=h.out;refine ⟨?_⟩;unfold wpQuiet at h ⊢;rw [if_pos (by simp [Region.wanted,hy])];rw [if_pos (by simp [Region.wanted])] at h;exact h
theorem WQ.gno {j t:Nat} {b b':Bool} (hj:(ops[j]?).bind (·.dst)=some t) (hv:ev N f (.tmp t)=boo b') (hb:b'=!b) (h:WQ P N ops C rest Q (updo f od undef)):WQ P N ops C (⟨od,op,ty,pos,af,some (j,b)⟩ :: rest) Q f:=by
 subst hb;have hy:=zEz (N:=N) hj hv;have h:=h.out;refine ⟨?_⟩
 grind [wpQuiet,Region.wanted,zCK]
theorem WQ.gund {j t:Nat} {b:Bool} (hj:(ops[j]?).bind (·.dst)=some t) (hv:ev N f (.tmp t)=undef) (h:WQ P N ops C rest Q (updo f od undef)):WQ P N ops C (⟨od,op,ty,pos,af,some (j,b)⟩ :: rest) Q f:=by
 have hy:yielded ops (act N f).tmps j=none:=by
  grind [yielded,act,zHG,ev,zLt,undef]
 have h:=h.out;refine ⟨?_⟩
 grind [wpQuiet,Region.wanted,zCK]
theorem WQ.grp {l : List Oper} (n : Nat) (ds : List Nat) (dp : Nat) (v : Value) (h : WQ P N ops C (l.take n) (fun f' => f' dp = v ∧ agree f f' (dp :: ds)) f)
    (k:∀ us,WQ P N ops C (l.drop n) Q (upd (upds f ds us) dp v)):WQ P N ops C l Q f:=by
  rw [← List.take_append_drop n l];refine ⟨zJN _ _ _ (zIn (fun a ⟨f',ha,h1,h2⟩=>?_) _ _ h.out)⟩;subst ha;rw [zNu h1 h2];exact (k f').out
theorem WQ.idx {α : Type} [Enc α] {e : TypeId} {i : Operand} {xs : List α} {n : Int} {c : α} (hR : Sl H v xs) (hx : ev N f x = v) (hi : ev N f i = int n) (hE : Elem P T e (Enc.sz α)) (h : xnth xs n = some c)
    (k:∀ a cs,At H a cs→Enc.cells H cs c→WQ P N ops C rest Q (upd f d (.pointer (some a)))):WQ P N ops C (⟨some d,.indexAddr T x i,ty,pos,af,none⟩ :: rest) Q f:=by
  unfold xnth at h;split at h
  case isFalse=>cases h
  rename_i h0;obtain ⟨a,cp,rfl,h1,h2,h3⟩:=hR;obtain ⟨hlt,hc⟩:=List.getElem?_eq_some_iff.1 h;rcases h3 with rfl | ⟨b,off,cs,rfl,hat,hC⟩
  · simp at hlt
  obtain ⟨cs1,r,hr,hcs1⟩:=hC.get h;have hE':=hE;obtain ⟨ht,inf,z,hinf,_,hsize,_⟩:=hE';have hat':At H ⟨b,off+n.toNat*Enc.sz α,none⟩ cs1:=by
    obtain ⟨T',l,_,hH,r',hr'⟩:=hat;refine ⟨T',l,rfl,hH,r++r',?_⟩
    show l.drop (off+n.toNat*Enc.sz α)=_
    have hle:n.toNat*Enc.sz α≤cs.length:=by
      rw [hC.length]; exact Nat.mul_le_mul_right _ om
    rw [← List.drop_drop,show List.drop off l=cs++r' from hr',List.drop_append_of_le_length hle,hr,List.append_assoc]
  refine WQ.val (v:=.pointer (some ⟨b,off+n.toNat*Enc.sz α,none⟩)) (fun w _=>?_) (k _ _ hat' hcs1);have hr:0≤n∧n<(xs.length:Int):=⟨h0,om⟩;simp [execOp,Instr.indexAt,asIntOf,hx,hi,int,run_underlying ht,hr,sizeOf,typeInfo,hinf,hsize,Addr.add_lit]
def zHg (P:Program) (T:TypeId):Option (List (Nat×Nat)) :=
 match P.underlying T with
 | some (.struct fs)=>fs.toList.mapM fun g=>(P.info? g.type).map fun i=>(g.offset,i.size)
 | _=>none
theorem run_places (l:List Field) (pl:List (Nat×Nat)) (h:(l.mapM fun g=>(P.info? g.type).map fun i=>(g.offset,i.size))=some pl):(l.mapM fun g=>(do pure (g.offset,← sizeOf g.type):Sem (Nat×Nat))).run P w=.ok pl w:=by
 induction l generalizing pl with
 | nil=>simp_all
 | cons g l ih =>
  simp only [List.mapM_cons,Option.bind_eq_bind,Option.bind_eq_some_iff] at h;obtain ⟨x,hx,ys,hys,hp⟩:=h;cases hi:P.info? g.type <;> simp_all [sizeOf,typeInfo]
theorem R.build {ps : List (Nat × Operand)} {pl : List (Nat × Nat)} {zs : List Value} (vs : List (Nat × Value)) (cs : List Value) (hp : zHg P T = some pl) (hz : zer P T = some zs) (hv : (ps.map fun p => (p.1, ev N f p.2)) = vs)
    (hf:(Instr.fill (fun i=>pl[i]?) zs.toArray vs)=some cs.toArray):(execOp (ev N f) ⟨od,.build T ps.toArray,ty,pos,af,g⟩).run P w=.ok (.value (agg cs)) w:=by
  unfold zHg at hp;split at hp
  case h_2=>cases hp
  rename_i fs hT;unfold zer at hz;cases hi:P.info? T with
  | none=>grind
  | some i =>
    rw [hi] at hz;cases hzz:i.zero with
    | none=>simp [hzz] at hz
    | some z =>
      simp [hzz] at hz;have hzs:z.cells=zs.toArray:=by rw [← hz]
      have hpl:=run_places (P:=P) (w:=w) fs.toList pl hp;simp_all [Array.mapM_eq_mapM_toList,Instr.build,agg,zeroValue,typeInfo,run_underlying,execOp]
inductive EqF:Value→Value→Bool→Prop where
 | int (a b:Int):EqF (int a) (int b) (a==b)
 | boo (a b:Bool):EqF (boo a) (boo b) (a==b)
 | str (a b:Str):EqF (str a) (str b) (a==b)
def eqK (P:Program) (t:TypeId):Option Nat :=
 match P.underlying t with
 | some (.int .i64)=>some 0
 | some .bool=>some 1
 | some .string=>some 2
 | _=>none
def zNQ (P:Program) (T:TypeId):Bool :=
 match P.underlying T with
 | some (.struct fs)=>!P.stoodInHeld T&&!P.eqGuardType P.depth T&&(fs.toList.zipIdx.all fun x=>x.1.name != "_"&&(x.1.offset==x.2)&&(eqK P x.1.type).isSome)
 | _=>false
def kindV:Value→Option Nat
 | .int .i64 _=>some 0
 | .bool _=>some 1
 | .string _=>some 2
 | _=>none
def eqV:Value→Value→Bool
 | .int _ a,.int _ b=>a==b
 | .bool a,.bool b=>a==b
 | .string a,.string b=>a.data.toList==b.data.toList
 | _,_=>false
def allEq:List Value→List Value→Bool
 | x :: xs,y :: ys=>eqV x y&&allEq xs ys
 | _,_=>true
theorem zOw {t:TypeId} {cs:List Value} {o:Nat} {k:Nat} (hk:eqK P t=some k) (hv:cs[o]?=some v):(part t ⟨cs⟩ o).run P w=.ok v w:=by
 have h:(⟨cs⟩:Array Value)[o]?=some v:=by simpa using hv
 unfold eqK at hk;split at hk <;> first | simp_all [part,isAgg,run_underlying] | cases hk
theorem zXE {t:TypeId} {x y:Value} {k n:Nat} (hk:eqK P t=some k) (hx:kindV x=some k) (hy:kindV y=some k):(Op.equalIn (n+1) t x y).run P w=.ok (eqV x y) w:=by
 unfold eqK at hk;split at hk
 ·rename_i hT; simp at hk; subst hk
  unfold kindV at hx hy;split at hx <;> simp at hx
  split at hy <;> simp at hy
  rw [run_equalIn_int w n t .i64 .i64 _ _ hT]; rfl
 ·rename_i hT; simp at hk; subst hk
  unfold kindV at hx hy;split at hx <;> simp at hx
  split at hy <;> simp at hy
  rw [run_equalIn_bool' w n t _ _ hT]; rfl
 ·rename_i hT; simp at hk; subst hk
  unfold kindV at hx hy;split at hx <;> simp at hx
  split at hy <;> simp at hy
  rw [run_equalIn_string w n t _ _ hT,Lib.toList_data,Lib.toList_data]; rfl
 ·cases hk
theorem zLD (d : Nat) (xs ys : List Value) : ∀ (fs : List Field) (i : Nat), (fs.zipIdx i).all (fun x => x.1.name != "_" && (x.1.offset == x.2) && (eqK P x.1.type).isSome) = true →
  (xs.drop i).length=fs.length→(ys.drop i).length=fs.length→(∀ (j:Nat) (g:Field) (x y:Value),fs[j]?=some g→xs[i+j]?=some x→ys[i+j]?=some y→kindV x=eqK P g.type∧kindV y=eqK P g.type) →
  (Op.eqFields (d+1) ⟨xs⟩ ⟨ys⟩ fs).run P w=.ok (allEq (xs.drop i) (ys.drop i)) w
 | [],i,_,h1,h2,_=>by
  have e1:xs.drop i=[]:=List.eq_nil_of_length_eq_zero h1;have e2:ys.drop i=[]:=List.eq_nil_of_length_eq_zero h2;rw [e1,e2]; rfl
 | g :: fs,i,h,h1,h2,hk=>by
  simp only [List.zipIdx_cons,List.all_cons,bQ] at h;obtain ⟨⟨⟨hn,ho⟩,hs⟩,hr⟩:=h;have hi1:i<xs.length:=by simp at h1; omega
  have hi2:i<ys.length:=by simp at h2; omega
  obtain ⟨k,hkk⟩:=Option.isSome_iff_exists.1 hs;obtain ⟨k1,k2⟩:=hk 0 g xs[i] ys[i] rfl (by simp [hi1]) (by simp [hi2]);have ho':g.offset=i:=by simpa using ho
  have hn':g.name≠ "_":=by simpa using hn
  have ih:=zLD d xs ys fs (i+1) hr gR gR (fun j g' x y a b c=>hk (j+1) g' x y (by simpa using a) gR gR);have p1:=zOw (P:=P) (w:=w) (cs:=xs) (o:=i) hkk (List.getElem?_eq_getElem hi1);have p2:=zOw (P:=P) (w:=w) (cs:=ys) (o:=i) hkk (List.getElem?_eq_getElem hi2);have p3:=zXE (P:=P) (w:=w) (n:=d) hkk (k1.trans hkk) (k2.trans hkk);rw [lD hi1,lD hi2];simp only [Op.eqFields,hn',ne_eq,not_false_eq_true,if_true,ho',Sem.run_bind,p1,p2,p3,Result.andThen_ok,Sem.run_ite,allEq];cases hb:eqV xs[i] ys[i]
  ·simp
  ·simp [ih]
def zLR (P:Program) (T:TypeId):List (Option Nat) :=
 match P.underlying T with
 | some (.struct fs)=>fs.toList.map fun g=>eqK P g.type
 | _=>[]
theorem zPN (hT : zNQ P T = true) (hk : zLR P T = ks) (hx : xs.map kindV = ks) (hy : ys.map kindV = ks) :
  (Op.equalIn 10000 T (.agg ⟨xs⟩) (.agg ⟨ys⟩)).run P w=.ok (allEq xs ys) w∧∀ op (x y:Operand),(eqGuard op T x y (.agg ⟨xs⟩) (.agg ⟨ys⟩)).run P w=.ok () w:=by
 unfold zNQ at hT;unfold zLR at hk;split at hT
 case h_2=>cases hT
 rename_i fs hu;rw [hu] at hk;simp only [bQ,Bool.not_eq_true'] at hT;obtain ⟨⟨h1,h2⟩,h3⟩:=hT;have hfo:P.fieldsOf T=fs:=by simp [Program.fieldsOf,hu]
 refine ⟨?_,fun op x y=>run_eqGuard_agg w op T x y _ _ h2⟩;have e:(Op.equalIn 10000 T (.agg ⟨xs⟩) (.agg ⟨ys⟩)).run P w=(Op.eqFields 9999 ⟨xs⟩ ⟨ys⟩ (P.fieldsOf T).toList).run P w:=run_equalIn_struct w 9999 T _ _ (by rw [hfo]; exact hu) h1;rw [e,hfo];have hl:∀ zs:List Value,zs.map kindV=ks→zs.length=fs.toList.length:=fun zs hz=>by
  have:=congrArg List.length (hz.trans hk.symm); simpa using this
 have:=zLD (P:=P) (w:=w) 9998 xs ys fs.toList 0 h3 gR gR (by
  intro j g x y a b c;have hkj:ks[j]?=some (eqK P g.type):=by grind
  grind)
 simpa using this
theorem R.eqlA {T' : TypeId} {y : Operand} (b : Bool) (hx : ev N f x = agg xs) (hy : ev N f y = agg ys) (hT : zNQ P T = true) (hk : zLR P T = ks) (h1 : xs.map kindV = ks) (h2 : ys.map kindV = ks) (hb : allEq xs ys = b) :
  (execOp (ev N f) ⟨od,.binOp .eql T x y T',ty,pos,af,g⟩).run P w=.ok (.value (boo b)) w:=by
 simp_all [zPN,execOp,agg,run_eql_struct,boo]
theorem R.neqA {T' : TypeId} {y : Operand} (b : Bool) (hx : ev N f x = agg xs) (hy : ev N f y = agg ys) (hT : zNQ P T = true) (hk : zLR P T = ks) (h1 : xs.map kindV = ks) (h2 : ys.map kindV = ks) (hb : (!allEq xs ys) = b) :
  (execOp (ev N f) ⟨od,.binOp .neq T x y T',ty,pos,af,g⟩).run P w=.ok (.value (boo b)) w:=by
 simp_all [zPN,execOp,agg,run_neq_struct,boo]
end
theorem Oper.wp_monoQ {P:Program} {o:Oper} {a:Act} {w:World} {K K':Act→World→Prop} {Q Q':Exit→Act→World→Prop} (hk:∀ a w,K a w→K' a w) (hq:∀ e a w,e≠.normal→Q e a w→Q' e a w) (h:o.wp P a w K Q):o.wp P a w K' Q':=by
 unfold Oper.wp at *
 generalize (execOp a.eval o).run P w=r at *
 cases r with
 | ok n w' =>
  cases n with
  | enter g args =>
   exact Calls.mono h (fun e w'' he=>by
    cases e with
    | returned v=>exact hk _ _ he
    | panicked c=>grind
    | outgrown=>obtain ⟨a0,w0,h0⟩:=he; exact ⟨a0,w0,hq _ _ _ sI h0⟩)
  | row r args=>exact Rows.mono h (fun v w'' he=>hk _ _ he)
  | value v=>exact hk _ _ h
  | skip=>exact hk _ _ h
  | defer d=>exact hk _ _ h
  | _=>exact h
 | halt x w' =>
  cases x with
  | panic v=>exact hq _ _ _ sI h
  | _=>exact h
theorem zSL {P:Program} {ops:Array Oper} {i:Nat} {a:Act} {w:World} {K K':Act→World→Prop} {Q Q':Exit→Act→World→Prop} (hk:∀ a w,K a w→K' a w) (hq:∀ e a w,Q e a w→Q' e a w) (h:wpOp P ops Q i K a w):wpOp P ops Q' i K' a w:=by
 unfold wpOp at *
 split
 ·grind
 ·rename_i o ho
  simp only [ho] at h;split
  ·rename_i hw
   rw [if_pos hw] at h;rcases h with h | ⟨h1,a0,w0,h2⟩
   ·grind [Oper.wp_monoQ]
   ·exact .inr ⟨h1,a0,w0,hq _ _ _ h2⟩
  grind
theorem zHw {P:Program} {md:Region.Mode} {ops:Array Oper} {Q Q':Exit→Act→World→Prop} (hq:∀ e a w,Q e a w→Q' e a w):∀ (n:Nat) (listed:Array Bool) (a:Act) (w:World),wpAny P md ops Q n listed a w→wpAny P md ops Q' n listed a w
 | 0,_,_,_,h=>⟨h.1,hq _ _ _ h.2⟩
 | n+1,_,_,_,h=>⟨fun h0=>hq _ _ _ (h.1 h0),fun i hi=>zSL (fun a w=>zHw hq n _ a w) hq (h.2 i hi)⟩
def WA (P:Program) (N:Frm) (ops:Array Oper) (n:Nat) (listed:Array Bool) (Q:Fr→World→Prop) (f:Fr) (w:World):Prop :=
 wpAny P .any ops (fun e a w'=>∃ f',a=act N f'∧e=.normal∧Q f' w') n listed (act N f) w
section
variable {P:Program} {N:Frm} {f:Fr} {w:World} {ops:Array Oper} {Q:Fr→World→Prop} {n:Nat} {listed:Array Bool}
theorem WP.draw {id:Nat} {Q:Exit→Fr→World→Prop} (hm:P.follows .mixedOrders=true) (m:Nat) (hn:ops.size=m) (l0:Array Bool) (hl:Array.replicate m false=l0) (h:WA P N ops m l0 (Q .normal) f w.drew):WP P N (.region id ops true) Q f w:=by
 subst hn; subst hl;refine wp_region_any hm (zHw (fun e a w ⟨f',ha,he,hq⟩=>?_) _ _ _ _ h)
 grind
theorem WA.take {i : Nat} {d : Option Nat} {op : Op} {ty : TypeId} {pos : String} {af : Array Edge} {v : Value} (listed' : Array Bool) (hi : ops[i]? = some ⟨d, op, ty, pos, af, none⟩) (hs : Region.noSelect ops = true) (hf : Region.free .any ops listed i = true)
    (hr:(Region.ready .any ops listed).contains i=true) (hl:listed.setIfInBounds i true=listed') (hrun:∀ w,(execOp (ev N f) ⟨d,op,ty,pos,af,none⟩).run P w=.ok (.value v) w)
    (h:WA P N ops n listed' Q (updo f d v) w):WA P N ops (n+1) listed Q f w:=by
  subst hl;refine wpAny_take hi hs hf hr (fun c a w ⟨f',_,he,_⟩=>by cases he) (v:=v) (.inl ⟨by simp [Region.wanted],fun w=>?_⟩) ?_
  · rw [zCR]; exact hrun w
  · show wpAny P .any ops _ n _ ((act N f).put d v) w
    rw [zCK]; exact h
theorem WA.one {i : Nat} {o : Oper} (listed' : Array Bool) (hi : ops[i]? = some o) (hr : Region.ready .any ops listed = [i]) (hl : listed.setIfInBounds i true = listed')
    (h:WL P N ops [o] (fun f' w'=>WA P N ops n listed' Q f' w') f w):WA P N ops (n+1) listed Q f w:=by
  subst hl;refine wpAny_all hr sI fun j hj=>?_
  rcases List.mem_singleton.1 hj with rfl
  unfold wpOp;rw [hi];have h':wpList P ops (fun e a w'=>∃ f',a=act N f'∧e=.normal∧WA P N ops n (listed.setIfInBounds j true) Q f' w') [o] (act N f) w:=h.out;unfold wpList at h'
  show if Region.wanted o (yielded ops (act N f).tmps)=true then _ else _
  split
  · rename_i hw
    rw [if_pos hw] at h';rcases h' with h' | ⟨_,a0,w0,f0,_,he,_⟩
    · refine .inl (Oper.wp_monoQ (fun a w hk=>?_) (fun e a w hne ⟨f',ha,he,_⟩=>absurd he hne) h')
      obtain ⟨f',ha,_,hq⟩:=hk;subst ha; exact hq
    · cases he
  · rename_i hw
    rw [if_neg hw] at h';obtain ⟨f',ha,_,hq⟩:=h';rw [ha]; exact hq
theorem WA.done (hr:Region.ready .any ops listed=[]) (h:Q f w):WA P N ops n listed Q f w:=wpAny_done hr ⟨f,rfl,rfl,h⟩ n
end
end Go.Eng
namespace Go.Eng
open Go Go.ChangeShapes Go.WideShapes Go.ChangeAt Go.RowKit
def Hp.of (W:World):Hp:=fun b=>match W.heap[b]? with | some (.cells cs T _)=>some (T,cs.toList) | _=>none
theorem Holds.of (W:World):Holds W (Hp.of W):=by
 intro b T l h;unfold Hp.of at h;split at h
 all_goals simp_all
theorem Hp.of_cells {W:World} {b:Nat} {cs:Array Value} {T:TypeId} {fz:Nat×Nat} (h:W.heap[b]?=some (.cells cs T fz)):Hp.of W b=some (T,cs.toList):=by
 unfold Hp.of; rw [h]
def zGP (P:Program) (ts:List TypeId):Bool:=ts.all fun t=>P.readableRec t&&decide (t<P.types.size)
section
variable {X:Type} {enc:TypeId×Value→X} {P:Program} {W W':World}
theorem zKQ (hl : laidOutB P = true) (hb : Below W.heap.size W W') : ∀ {ts : List TypeId} {vs : List Value} {ds : List (DataW X)} {ps : List MemPlace}, zGP P ts = true →
  DataW.TrodAll enc P W 0 (fun _=>true) true ts vs ds ps→(∀ x ∈ ps,x.block<W.heap.size)→DataW.TrodAll enc P W' 0 (fun b=>decide (b<W.heap.size)) true ts vs ds ps
 | [],_,_,_,_,h,_=>by obtain ⟨rfl,rfl,rfl⟩:=trodAll_nil h; rfl
 | t :: ts,_,_,_,hr,h,hlt=>by
  obtain ⟨v,vs,d,ds',p,q,rfl,rfl,rfl,hd,hrest⟩:=trodAll_cons h;simp only [zGP,List.all_cons,bQ,decide_eq_true_eq] at hr;exact ⟨p,q,Below.trod hl hr.1.1 hr.1.2 hd hb (fun x hx=>hlt x (List.mem_append.2 (.inl hx))),zKQ hl hb (by simpa [zGP] using hr.2) hrest (fun x hx=>hlt x (List.mem_append.2 (.inr hx))),rfl⟩
theorem zVN {fn : Func} {s : ChangeSpec} {args : Array Value} {ds gs : List (DataW X)} {before : List MemPlace} {tb : TypeId} {apart : Bool}
    (hl:laidOutB P=true) (hts:zGP P fn.params.toList=true) (hv:s.vars=[]) (hW:DataW.Whole enc P fn.params.toList s.vars apart W args.toList ds gs before)
    (hs:(s.fn X (ds++gs)).results=[.lit (.bool true)]∧(s.fn X (ds++gs)).args=ds∧(s.fn X (ds++gs)).vars=[]) (hrt:fn.resultTypes=#[tb]) (hbt:P.underlying tb=some .bool) (hb:Below W.heap.size W W') :
    s.post enc P fn apart true false false W args (boo true) W':=by
  obtain ⟨h1,h2,h3⟩:=hs;have hlt:∀ p ∈ before,p.block<W.heap.size:=fun p hp=>hW.lt p hp
  have hW':=hW;obtain ⟨p,q,hA,hV,rfl,_,_⟩:=hW';refine ⟨ds,gs,_,[],p,[],hW,?_,?_,?_,hb.frame _,fun h=>by cases h⟩
  · rw [h1,hrt]
    exact trodAll_mk1 (shut_bool hbt true)
  · grind [zKQ]
  · rw [h3,hv]; rfl
theorem zUb {fn : Func} {k : FuncId} {s : ChangeSpec} {args : Array Value} {vs : List Value} {ds gs : List (DataW X)} {before : List MemPlace} {tb : TypeId} {apart : Bool} (ha : args = vs.toArray)
    (hl:laidOutB P=true) (hts:zGP P fn.params.toList=true) (hv:s.vars=[]) (hW:DataW.Whole enc P fn.params.toList s.vars apart W args.toList ds gs before)
    (hs:(s.fn X (ds++gs)).results=[.lit (.bool true)]∧(s.fn X (ds++gs)).args=ds∧(s.fn X (ds++gs)).vars=[]) (hrt:fn.resultTypes=#[tb]) (hbt:P.underlying tb=some .bool)
    (C:Con P k vs W (Hp.of W) (fun _ v=>v=boo true)) :
    Calls P k args W fun e W'=>∃ v,e=.returned v∧s.post enc P fn apart true false false W args v W':=by
  subst ha;refine Calls.mono C.2 fun e W' ⟨v,H',he,hp,hv'⟩=>⟨v,he,?_⟩
  subst hv';exact zVN hl hts hv hW hs hrt hbt hp.below
end
def Rd (P:Program) (t:TypeId) (α:Type) [Enc α]:Prop :=
 ∀ (X:Type) (enc:TypeId×Value→X) (W:World) (fuel:Nat) (cs:List Value) (x:DataW X×List MemPlace),DataW.trod enc P W 0 (fun _=>true) true fuel t cs=some x→∃ a:α,Enc.cells (Hp.of W) cs a
variable {P:Program} {t:TypeId}
theorem Rd.str (ht:P.underlying t=some .string):Rd P t Str:=fun _ _ _ _ _ _ h=>by
 obtain ⟨s,rfl,_⟩:=DataW.trod_string ht h;exact ⟨s.data.toList,rfl⟩
theorem Rd.bool (ht:P.underlying t=some .bool):Rd P t Bool:=fun _ _ _ _ _ _ h=>by
 obtain ⟨b,rfl,_⟩:=DataW.trod_bool ht h;exact ⟨b,rfl⟩
theorem Rd.int (ht:P.underlying t=some (.int .i64)):Rd P t Int:=fun _ _ _ _ _ _ h=>by
 obtain ⟨n,rfl,_⟩:=DataW.trod_int ht h;exact ⟨n,rfl⟩
theorem zSQ {α:Type} {f:Nat→Option α} {n:Nat} {l:List α} (h:(List.range n).mapM f=some l):l.length=n∧∀ i,i<n→f i=l[i]?:=by
 have key:∀ (is:List Nat) (l:List α),is.mapM f=some l→l.length=is.length∧∀ (k i:Nat),is[k]?=some i→f i=l[k]?:=by
  intro is
  induction is with
  | nil=>grind
  | cons i is ih =>
   intro l h;rw [List.mapM_cons] at h;cases hf:f i with
   | none=>simp [hf] at h
   | some y =>
    cases hr:is.mapM f <;> grind
 obtain ⟨h1,h2⟩:=key _ _ h
 grind
theorem add_zero' (a:Addr):a.add 0=a:=by unfold Addr.add; simp
theorem zOs {W : World} {a : Addr} {n : Nat} {cs : List Value} (h : W.cells? 0 a n = some cs) (hn : 0 < n) :
  a.spot=none∧∃ c T fz,W.heap[a.block]?=some (.cells c T fz)∧(c.toList.drop a.off).take n=cs∧cs.length=n:=by
 unfold World.cells? at h;rw [if_pos (Nat.zero_le _)] at h;obtain ⟨hl,hf⟩:=zSQ h;have h0:=hf 0 hn;rw [add_zero'] at h0;have hex:∃ v,W.cell? a=some v:=⟨cs[0],gR⟩;obtain ⟨v,hv⟩:=hex;have hv':=hv;unfold World.cell? at hv';split at hv'
 ·rename_i c T fz hc
  split at hv'
  ·cases hv'
  ·rename_i hs
   have hs':a.spot=none:=by simp_all
   refine ⟨hs',c,T,fz,hc,?_,hl⟩;apply List.ext_getElem?
   grind [Addr.add,cell_of_row]
 ·cases hv'
theorem Rd.slice {P : Program} {t e : TypeId} {α : Type} [Enc α] (ht : P.underlying t = some (.slice e)) (hc : P.cellsOf e = Enc.sz α) (hr : Rd P e α) {X : Type} {enc : TypeId × Value → X} {W : World} {fuel : Nat} {v : Value} {x : DataW X × List MemPlace}
    (h:DataW.trod enc P W 0 (fun _=>true) true fuel t [v]=some x):∃ a:List α,Sl (Hp.of W) v a:=by
  rcases DataW.trod_slice ht h with ⟨hcs,_⟩ | ⟨a,len,cap,elems,rest,n,_,hcs,_,_,hl,hm,hel,hf,_⟩
  · simp at hcs; subst hcs; exact ⟨[],Sl.nil⟩
  · simp at hcs; subst hcs
    by_cases h0:len=0
    · subst h0
      exact ⟨[],some a,cap,rfl,by simp,hm,.inl rfl⟩
    · have hsz:=Enc.pos (α:=α)
      have hrow:∀ i,i<len→∃ cs y,W.cells? 0 (a.add (i*Enc.sz α)) (Enc.sz α)=some cs∧DataW.trod enc P W 0 (fun _=>true) true n e cs=some y:=by
        grind [Option.bind_eq_some_iff]
      obtain ⟨cs0,y0,h1,_⟩:=hrow 0 (by omega);rw [Nat.zero_mul,add_zero'] at h1;obtain ⟨hs,c,T,fz,hcc,_,_⟩:=zOs h1 hsz;have e:∀ i,a.add i=⟨a.block,a.off+i,none⟩:=by
        intro i;unfold Addr.add;split
        · rename_i h0; subst h0; cases a; grind
        · cases a; rfl
      have key:∀ k,k≤len→∃ xs:List α,xs.length=k∧Cells (Hp.of W) ((c.toList.drop (a.off+(len - k)*Enc.sz α)).take (k*Enc.sz α)) xs:=by
        intro k
        induction k with
        | zero=>simp_all [Cells]
        | succ k ih =>
          intro hk;obtain ⟨xs,hxl,hxs⟩:=ih (by omega);obtain ⟨cs,y,h1,h2⟩:=hrow (len - (k+1)) (by omega);obtain ⟨z,hz⟩:=hr X enc W n cs y h2;rw [e] at h1;obtain ⟨_,c',T',fz',hcc',htk,hlen⟩:=zOs h1 hsz;have:c'=c:=by
            grind
          subst this;refine ⟨z :: xs,by simp [hxl],cs,_,?_,hz,hxs⟩;have htk':(c'.toList.drop (a.off+(len - (k+1))*Enc.sz α)).take (Enc.sz α)=cs:=htk;rw [Nat.succ_mul,Nat.add_comm (k*Enc.sz α),List.take_add,htk',List.drop_drop];have e3:a.off+(len - k)*Enc.sz α=a.off+(len - (k+1))*Enc.sz α+Enc.sz α:=by
            have:len - k=(len - (k+1))+1:=by omega
            grind
          rw [e3]
      obtain ⟨xs,hxl,hxs⟩:=key len (nR _);subst hxl;refine ⟨xs,some a,cap,rfl,hl,hm,.inr ⟨a.block,a.off,_,?_,?_,hxs⟩⟩
      · cases a; grind
      · refine ⟨T,c.toList,rfl,Hp.of_cells hcc,(c.toList.drop a.off).drop (xs.length*Enc.sz α),?_⟩
        grind [List.take_append_drop]
theorem Rd.list {P : Program} {t e : TypeId} {α : Type} [Enc α] (hc : P.cellsOf e = Enc.sz α) (ht : P.underlying t = some (.slice e)) (hr : Rd P e α) :
  ∀ (X:Type) (enc:TypeId×Value→X) (W:World) (fuel:Nat) (cs:List Value) (x:DataW X×List MemPlace),DataW.trod enc P W 0 (fun _=>true) true fuel t cs=some x→∃ (v:Value) (a:List α),cs=[v]∧Sl (Hp.of W) v a:=by
 intro X enc W fuel cs x h;have:∃ v,cs=[v]:=by
  rcases DataW.trod_slice ht h with ⟨hcs,_⟩ | ⟨a,len,cap,elems,rest,n,_,hcs,_⟩
  all_goals grind
 obtain ⟨v,rfl⟩:=this;obtain ⟨a,ha⟩:=Rd.slice ht hc hr h
 grind
theorem Rd.field {P : Program} {t : TypeId} {fs : Array Field} {X : Type} {enc : TypeId × Value → X} {W : World} {fuel : Nat} {cs : List Value} {x : DataW X × List MemPlace} (ht : P.underlying t = some (.struct fs))
    (h:DataW.trod enc P W 0 (fun _=>true) true fuel t cs=some x):cs.length=P.cellsOf t∧∀ (i:Nat) (f:Field),fs[i]?=some f→∃ n y,DataW.trod enc P W 0 (fun _=>true) true n f.type ((cs.drop f.offset).take (P.cellsOf f.type))=some y:=by
  obtain ⟨xs,n,_,_,hl,hlen,hf⟩:=DataW.trod_struct ht h
  grind
theorem zUS {P : Program} {W : World} {X : Type} {enc : TypeId × Value → X} {t e : TypeId} {α : Type} [Enc α] {v : Value} {d : DataW X} {p : List MemPlace} {base : Nat} (ht : P.underlying t = some (.slice e)) (hc : P.cellsOf e = Enc.sz α) (hr : Rd P e α)
    (hv:Value.okWide P W .any base t v) (h:DataW.Trod enc P W 0 (fun _=>true) true t v d p):∃ a:List α,Sl (Hp.of W) v a:=by
  obtain ⟨a0,len,cap,rfl⟩:=okWide_slice ht hv;obtain ⟨fuel,h⟩:=h;exact Rd.slice ht hc hr h
end Go.Eng
namespace Go.Eng
open Go Go.RowKit
theorem zHk {P:Program} {k:FuncId} {fn:Func} {c:Code} (hf:P.funcs[k]?=some fn) (hb:fn.body=some c) (hname:(fn.name== "runtime.NumGoroutine")=false) (args:Array Value) (w:World):(callFunc k args).run P w=.ok (.enter k args) w:=by
 simp_all [callFunc]
variable {H:Hp} {w:World}
theorem Post.of_below {w':World} (hw:Holds w H) (hb:Below w.heap.size w w'):Post w H w' H:=by
 refine ⟨hb,Hp.le.refl _,fun _ _=>rfl,fun b T l h=>?_⟩;obtain ⟨cs,fz,hc,hr⟩:=hw b T l h;exact ⟨cs,fz,by rw [hb.block b (Array.getElem?_eq_some_iff.1 hc).1]; exact hc,hr⟩
theorem Con.of_calls {P : Program} {k : FuncId} {fn : Func} {c : Code} {args : List Value} {v : Value} (hf : P.funcs[k]? = some fn) (hb : fn.body = some c) (hname : (fn.name == "runtime.NumGoroutine") = false) (hw : Holds w H)
    (h:Calls P k args.toArray w fun e w'=>e=.returned v∧Below w.heap.size w w'):Con P k args w H (fun _ u=>u=v) :=
  ⟨zHk hf hb hname _,Calls.mono h fun _ _ ⟨he,hp⟩=>⟨v,H,he,Post.of_below hw hp,rfl⟩⟩
theorem Con.of_calls_same {P : Program} {k : FuncId} {fn : Func} {c : Code} {args : List Value} {v : Value} (hf : P.funcs[k]? = some fn) (hb : fn.body = some c) (hname : (fn.name == "runtime.NumGoroutine") = false) (hw : Holds w H)
    (h:Calls P k args.toArray w fun e w'=>e=.returned v∧w'=w):Con P k args w H (fun _ u=>u=v) :=
  Con.of_calls hf hb hname hw (Calls.mono h fun _ _ ⟨he,hp⟩=>⟨he,by subst hp; exact Below.refl _ _⟩)
theorem Cells.strs:∀ {xs:List Str} {l:List Value},Cells (α:=Str) H l xs→l=xs.map str
 | [],_,h=>h
 | x :: xs,_,⟨cs,r,e,hc,hr⟩=>by rw [e,show cs=[str x] from hc,Cells.strs hr]; rfl
theorem Cells.ints:∀ {xs:List Int},Cells (α:=Int) H (xs.map int) xs
 | []=>rfl
 | x :: xs=>⟨[int x],xs.map int,rfl,rfl,Cells.ints⟩
def jo (l:List Str) (sep:Str):Str:=Lib.join l sep
def strings_Join (l:List Str) (sep:Str):Option Str:=if (jo l sep).length≤big∧l.length≤big then some (jo l sep) else none
def strings_IndexByte (s:Str) (c:UInt8):Option Int:=some (Lib.indexByte s c)
def strings_makeASCIISet (cs:Str):Option Unit:=bif cs.all (fun c=>decide (c<128))&&decide (cs.length≤big / 128) then some () else none
def zAd (cs:Str) (c:UInt8):Option Bool:=some (cs.contains c)
def setc (cs:Str):List Value:=(Lib.setCells cs).toList
theorem zGk (cs:Str):(setc cs).length=256:=by
 have key:∀ (l:Str) (a:Array Value),(l.foldl (fun a c=>a.setIfInBounds c.toNat (.bool true)) a).size=a.size:=by
  intro l
  induction l <;> grind
 grind [setc,Lib.setCells]
theorem zUk (cs:Str) (x:UInt8):(setc cs)[x.toNat]?=some (boo (cs.contains x)):=by
 grind [Lib.setCells_at,setc,boo]
theorem zRG (cs:Str):(setc cs).all Value.oneCell'=true:=by
 rw [List.all_eq_true];intro v hv;obtain ⟨i,hi⟩:=lI.1 hv;have hlt:i<256:=by rw [← zGk cs]; grind
 have:=zUk cs (UInt8.ofNat i);have e:(UInt8.ofNat i).toNat=i:=by simp; omega
 rw [e,hi] at this;simp at this;subst this; rfl
theorem At.set {b:Nat} {cs:Str} (h:At H ⟨b,0,none⟩ (setc cs)) (hw:Holds w H) (x:UInt8):w.cell? ⟨b,x.toNat,none⟩=some (.bool (cs.contains x)):=by
 have:=h.cell hw (zUk cs x)
 rwa [Addr.add_lit,Nat.zero_add] at this
section
variable {P:Program} {N:Frm} {f:Fr} {w w0:World} {H0 H:Hp} {L:List Ent} {ops:Array Oper} {rest:List Oper} {Q:Fr→World→Prop} {d:Nat} {od:Option Nat} {ty:TypeId} {pos:String} {af:Array Edge} {g:Option (Nat×Bool)}
theorem W.arrHi {α : Type} [Enc α] {T e n : Nat} {x j : Operand} {b : Nat} {cs : List Value} {xs ys : List α} {m : Int} (hA : At H ⟨b, 0, none⟩ cs) (hC : Cells H cs xs) (hx : ev N f x = ptr b 0) (hj : ev N f j = int m)
    (hT:P.underlying T=some (.array n e)) (hE:∃ i,P.info? e=some i) (hn:xs.length=n) (hsz:n≤maxLen) (h:xsub xs 0 m=some ys)
    (k:∀ v',Sl H v' ys→WL P N ops rest Q (upd f d v') w):WL P N ops (⟨some d,.slice T x none (some j) none,ty,pos,af,none⟩ :: rest) Q f w:=by
  have h':=h;unfold xsub at h';split at h'
  case isFalse=>cases h'
  rename_i h0;simp only [oI] at h';obtain ⟨inf,hinf⟩:=hE;have hS:Sl H (.slice (some ⟨b,0,none⟩) xs.length n) xs:=by
    refine ⟨some ⟨b,0,none⟩,n,rfl,om,hsz,.inr ⟨b,0,cs,rfl,hA,hC⟩⟩
  have hs:=Sl.sub hS h;refine WL.wz (v:=.slice (if n=(0:Int).toNat then some ⟨b,0,none⟩ else (some (⟨b,0,none⟩:Addr)).map (·.add ((0:Int).toNat*Enc.sz α))) (m.toNat - (0:Int).toNat) (n - (0:Int).toNat)) (w':=w) ?_ (k _ hs);have g1:0≤m∧m≤(n:Int):=⟨om,om⟩;simp [execOp,Instr.sliceAt,Instr.sureAddr,Instr.sliceBounds,Instr.sliceBound,asIntOf,hx,hj,int,ptr,run_underlying hT,g1,sizeOf,typeInfo,hinf];split <;> rfl
end
section
variable {α:Type} [Enc α] {H:Hp}
abbrev EncOk (H:Hp) (v:Value) (x:α):Prop:=v.cells.size=Enc.sz α∧Enc.cells H v.cells.toList x
theorem enc1 {v1:Value} {x1:α} (h1:EncOk H v1 x1):∀ (i:Nat) (v:Value) (x:α),[v1][i]?=some v→[x1][i]?=some x→v.cells.size=Enc.sz α∧Enc.cells H v.cells.toList x:=by
 grind
theorem encS {v1 : Value} {x1 : α} {vs : List Value} {xs : List α} (h1 : EncOk H v1 x1) (h : ∀ (i : Nat) (v : Value) (x : α), vs[i]? = some v → xs[i]? = some x → v.cells.size = Enc.sz α ∧ Enc.cells H v.cells.toList x) :
  ∀ (i:Nat) (v:Value) (x:α),(v1 :: vs)[i]?=some v→(x1 :: xs)[i]?=some x→v.cells.size=Enc.sz α∧Enc.cells H v.cells.toList x:=by
 grind
theorem enc0:∀ (i:Nat) (v:Value) (x:α),([]:List Value)[i]?=some v→([]:List α)[i]?=some x→v.cells.size=Enc.sz α∧Enc.cells H v.cells.toList x:=by
 grind
theorem Sl.oneC {v:Value} {xs:List α} (h:Sl H v xs):v.oneCell'=true:=by
 obtain ⟨a,c,rfl,_⟩:=h; rfl
theorem Sl.cellsOne {v:Value} {xs:List α} (h:Sl H v xs):v.cells=#[v]:=by
 obtain ⟨a,c,rfl,_⟩:=h; rfl
end
inductive AllOne:List Value→Prop
 | nil:AllOne []
 | cons {v:Value} {l:List Value}:v.oneCell'=true→AllOne l→AllOne (v :: l)
theorem AllOne.mem {l:List Value} (h:AllOne l):∀ v ∈ l,v.oneCell'=true:=by
 induction h <;> grind
theorem AllOne.all {l:List Value} (h:AllOne l):l.all Value.oneCell'=true:=List.all_eq_true.2 h.mem
theorem zRz (c:UInt8):((c.toNat:Int)).toNat.toUInt8=c:=by simp
variable {P:Program} {c:Code} {fn:Func} {k:FuncId} {w:World}
theorem zXi {H : Hp} {l : List Str} {sep r : Str} {v : Value} (hf : P.funcs[k]? = some fn) (hb : fn.body = some c) (hname : (fn.name == "runtime.NumGoroutine") = false) (hw : Holds w H)
    (R:Sl (α:=Str) H v l) (h:strings_Join l sep=some r)
    (hnone:∀ (a:Option Addr) (c:Nat) (sep:ByteArray) (w:World),Calls P k #[.slice a 0 c,.string sep] w fun e w'=>e=.returned (.string ⟨#[]⟩)∧w'=w)
    (hsome:∀ (bk o c:Nat) (xs:List ByteArray) (sep:ByteArray) (w:World),(∀ (j:Nat) x,xs[j]?=some x→w.cell? ⟨bk,o+j,none⟩=some (.string x))→bk<w.heap.size→xs.length≤140737488355328→xs.length≤c →
      (Lib.join (xs.map (·.data.toList)) sep.data.toList).length≤140737488355328 →
      Calls P k #[.slice (some ⟨bk,o,none⟩) xs.length c,.string sep] w fun e w'=>e=.returned (.string ⟨(Lib.join (xs.map (·.data.toList)) sep.data.toList).toArray⟩)∧Below w.heap.size w w') :
    Con P k [v,str sep] w H (fun _ u=>u=str r):=by
  unfold strings_Join at h;split at h
  case isFalse=>cases h
  rename_i hbig;simp only [oI] at h;subst h;obtain ⟨a,cp,rfl,h1,h2,h3⟩:=R;rcases h3 with rfl | ⟨b,off,cs,rfl,hat,hC⟩
  · exact Con.of_calls_same hf hb hname hw (hnone a cp ⟨⟨sep⟩⟩ w)
  · have hcs:=hC.strs
    subst hcs;by_cases hl:l=[]
    · subst hl
      exact Con.of_calls_same hf hb hname hw (hnone _ cp ⟨⟨sep⟩⟩ w)
    · have hm:(l.map fun x=>(⟨⟨x⟩⟩:ByteArray)).map (·.data.toList)=l:=by simp [Function.comp_def]
      have hlt:b<w.heap.size:=by
        obtain ⟨T,l',_,hH,_⟩:=hat;obtain ⟨_,_,hc,_⟩:=hw _ _ _ hH
        grind
      have hbg:big≤140737488355328:=by decide
      have hh:=hsome b off cp (l.map fun x=>(⟨⟨x⟩⟩:ByteArray)) ⟨⟨sep⟩⟩ w (fun j x hx=>by
        rw [List.getElem?_map] at hx;obtain ⟨y,hy,rfl⟩:=Option.map_eq_some_iff.1 hx;have:=hat.cell hw (j:=j) (v:=str y) gR
        rwa [Addr.add_lit] at this) hlt (by simp; omega) (by simpa using h1) (by rw [hm]; exact nT hbig.1 hbg)
      simp_all [Con.of_calls,str,jo]
theorem zT7 {H : Hp} {s : Str} {b : UInt8} {r : Int} (hf : P.funcs[k]? = some fn) (hb : fn.body = some c) (hname : (fn.name == "runtime.NumGoroutine") = false) (hw : Holds w H) (h : strings_IndexByte s b = some r)
    (hc:∀ (s:ByteArray) (c:Int) (w:World),Calls P k #[.string s,.int .u8 c] w fun e w'=>e=.returned (.int .i64 (Lib.indexByte s.data.toList c.toNat.toUInt8))∧w'=w) :
    Con P k [str s,byt b] w H (fun _ u=>u=int r):=by
  simp only [strings_IndexByte,oI] at h;subst h;have:=hc ⟨⟨s⟩⟩ (b.toNat:Int) w;rw [zRz] at this;exact Con.of_calls_same hf hb hname hw this
theorem zVr {H : Hp} {s : Str} {T : TypeId} {r : Unit} (hf : P.funcs[k]? = some fn) (hb : fn.body = some c) (hname : (fn.name == "runtime.NumGoroutine") = false) (hw : Holds w H) (h : strings_makeASCIISet s = some r)
    (hc:∀ (chars:ByteArray) (w:World),chars.size<4294967281→(∀ (j:Nat) b,chars.data.toList[j]?=some b→b.toNat<128) →
      Calls P k #[.string chars] w fun e w'=>e=.returned (.tuple #[.agg (Lib.setCells chars.data.toList),.bool true])∧w'=w.alloc (.cells (Lib.setCells chars.data.toList) T)) :
    Con P k [str s] w H (fun _ u=>u=.tuple ⟨[.agg (Lib.setCells s),boo true]⟩):=by
  unfold strings_makeASCIISet at h;have hg:(s.all (fun c=>decide (c<128))&&decide (s.length≤big / 128))=true:=by
    grind
  simp only [bQ,List.all_eq_true,decide_eq_true_eq] at hg;have h1:big / 128<4294967281:=by decide
  have hh:=hc ⟨⟨s⟩⟩ w (by show s.length<_; omega) (fun j b hj=>by
    have:=hg.1 b (lG hj);exact UInt8.lt_iff_toNat_lt.1 this)
  refine Con.of_calls hf hb hname hw (Calls.mono hh fun _ _ ⟨he,hp⟩=>⟨he,?_⟩);subst hp;exact (Below.refl _ _).alloc (nR _) _
theorem zVI {H : Hp} {cs : Str} {b : Nat} {x : UInt8} {r : Bool} (hf : P.funcs[k]? = some fn) (hb : fn.body = some c) (hname : (fn.name == "runtime.NumGoroutine") = false) (hw : Holds w H)
    (hA:At H ⟨b,0,none⟩ (setc cs)) (h:zAd cs x=some r)
    (hc:∀ (b:Nat) (x:UInt8) (v:Bool) (w:World),w.cell? ⟨b,x.toNat,none⟩=some (.bool v)→Calls P k #[.pointer (some ⟨b,0,none⟩),.int .u8 x.toNat] w fun e w'=>e=.returned (.bool v)∧w'=w) :
    Con P k [ptr b 0,byt x] w H (fun _ u=>u=boo r):=by
  simp only [zAd,oI] at h;subst h;exact Con.of_calls_same hf hb hname hw (hc b x _ w (hA.set hw x))
theorem R.mkFunc {N : Frm} {f : Fr} {od : Option Nat} {ty : TypeId} {pos : String} {af : Array Edge} {g : Option (Nat × Bool)} {xs : List Operand} {vs : List Value} (h : xs.map (ev N f) = vs) :
  (execOp (ev N f) ⟨od,.makeFunc (.func k) #[] xs.toArray,ty,pos,af,g⟩).run P w=.ok (.value (.func (.func k) #[] vs.toArray)) w:=by
 subst h;simp [execOp,Instr.makeFunc]
theorem zND {cs vs:List Value} (h:vs.length=cs.length):zEH cs 0 vs=vs:=by
 simp [zEH,h]
section
variable {P:Program} {N:Frm} {f:Fr} {w:World} {od:Option Nat} {ty:TypeId} {pos:String} {af:Array Edge} {g:Option (Nat×Bool)}
theorem R.buildArr {T e n m : Nat} {bb : Bool} {ps : List (Nat × Operand)} {zs : List Value} (vs : List (Nat × Value)) (cs : List Value) (hT : P.underlying T = some (.array n e)) (he : lay P e = some (bb, m)) (hz : zer P T = some zs) (hv : (ps.map fun p => (p.1, ev N f p.2)) = vs)
    (hf:(Instr.fill (fun i=>some (i*m,m)) zs.toArray vs)=some cs.toArray):(execOp (ev N f) ⟨od,.build T ps.toArray,ty,pos,af,g⟩).run P w=.ok (.value (agg cs)) w:=by
  obtain ⟨_,h2⟩:=zDF (w:=w) he;unfold zer at hz;cases hi:P.info? T with
  | none=>grind
  | some i =>
    rw [hi] at hz;cases hzz:i.zero with
    | none=>simp [hzz] at hz
    | some z =>
      simp [hzz] at hz;have hzs:z.cells=zs.toArray:=by rw [← hz]
      simp_all [Instr.build,agg,zeroValue,typeInfo,run_underlying,execOp]
end
end Go.Eng
namespace Go.Eng
open Go
theorem zVx {α β γ:Type} {o:Option (α×List β×γ)} (h:o.map (fun x=>x.2.1.isEmpty)=some true):∃ ds places,o=some (ds,[],places):=by
 simp_all
section
variable {w0 w:World} {H0 H:Hp} {L:List Ent}
theorem St.addNilV {v:Value} (hv:v=.slice none 0 0) (S:St w0 H0 w H L) (T:TypeId) (sz:Nat):St w0 H0 w H (.row v T sz 0 :: L):=by
 subst hv; exact S.addNil T sz
end
end Go.Eng
