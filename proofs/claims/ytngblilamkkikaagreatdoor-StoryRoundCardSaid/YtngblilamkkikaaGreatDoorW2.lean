import Derived.Test.YtngblilamkkikaaGreatDoorW1
set_option maxHeartbeats 40000000
set_option maxRecDepth 100000
set_option linter.all false
namespace Go.Proofs.YtngblilamkkikaaGreatDoor
namespace Ab
open Go Go.RowKit
def qP (P:Program)(t:TypeId)(n:Nat):Prop:=∀(x y:Operand) (xs ys:List Int) (w:World),xs.length=n->ys.length=n->
 ((do eqGuard .eql t x y (.agg (iv xs).toArray) (.agg (iv ys).toArray);binOp .eql t (.agg (iv xs).toArray) (.agg (iv ys).toArray)):Sem Value).run P w=.ok (.bool (decide (xs=ys))) w/\
 ((do eqGuard .neq t x y (.agg (iv xs).toArray) (.agg (iv ys).toArray);binOp .neq t (.agg (iv xs).toArray) (.agg (iv ys).toArray)):Sem Value).run P w=.ok (.bool (decide (xs≠ys))) w
def Qk:AC->Option Int
 | .v (.int .i64 n)=>some n
 |_=>none
def Fp:List AC->Option (List Int)
 |[]=>some []
 |x::l=>match Qk x,Fp l with
  |some n,some r=>some (n::r)
  |_,_=>none
section
variable {P:Program} {w:World}
theorem aoy {A:Nat->Prop}{S:Nat->Slot}{G:Nat->Gh}{H:Nat->Value}{x:AC}{n:Int}{u:Value}(h:Qk x=some n)(hc:CR w A S G H x u):u=I n:=by
 unfold Qk at h;split at h
 ·simp only[aC] at h;subst h;have h2:IR w A (.v (.int .i64 _)) u:=hc;cases h2;rfl
 ·cases h
theorem VE {A:Nat->Prop}{S:Nat->Slot}{G:Nat->Gh}{H:Nat->Value}:∀{cs:List AC} {l:List Int} {us:List Value},Fp cs=some l->cp w A S G H cs us->us=iv l
 |[],l,us,h,hc=>by
  simp only[Fp,aC] at h;subst h;exact ya hc.1
 |x::cs,l,us,h,hc=>by
  unfold Fp at h;split at h
  case h_2=>cases h
  rename_i n r h1 h2;simp only[aC] at h;subst h
  cases us with
  |nil=>have:=hc.1;simp at this
  |cons u us=>
   have hc':cp w A S G H cs us:=⟨by have:=hc.1;simpa using this,fun j x u e1 e2=>hc.2 (j+1) x u (by simpa using e1) (by simpa using e2)⟩
   rw[VE h2 hc',aoy h1 (hc.2 0 x u rfl rfl)];rfl
def Ql (neg:Bool)(n:Nat):Option AV->Option AV->Option AV
 |some (.w (.agg cs)),some (.w (.agg ds))=>match Fp cs,Fp ds with
  |some xs,some ys=>if xs.length=n/\ys.length=n then some (.w (.c (.v (.bool (if neg then decide (xs≠ys) else decide (xs=ys)))))) else none
  |_,_=>none
 |_,_=>none
theorem adb {o:Oper}{neg:Bool}{t t':TypeId}{n:Nat}{x x':Operand}{y y':aP}(ho:o.op=.binOp (if neg then .neq else .eql) t x x' t')(hE:qP P t n)(hx:dv x y)(qL:dv x' y'):jG P false o (fun st _=>Ql neg n (st.arg y) (st.arg y')):=by
 intro N F M w0 w st G H a U r h hr;dsimp only at hr;unfold Ql at hr;split at hr
 case h_2=>cases hr
 rename_i cs ds h1 h2;split at hr
 case h_2=>cases hr
 rename_i xs ys h3 h4;split at hr
 case isFalse=>cases hr
 rename_i hl;simp only[aC] at hr;subst hr;obtain⟨us,e1,c1⟩:=h.arg hx h1;obtain⟨vs,e2,c2⟩:=h.arg qL h2;have i1:=VE h3 c1;have i2:=VE h4 c2;subst i1;subst i2;refine⟨_,IR.v _ rfl,fun w' _=> ?_⟩;have hq:=hE x x' xs ys w' hl.1 hl.2;unfold execOp;cases neg
 ·have h5:=hq.1;simp only[ye,nY] at ho⊢;simp only[ho,e1,e2];rw[nX,h5];rfl
 ·have h5:=hq.2;simp only[mr] at ho⊢;simp only[ho,e1,e2];rw[nX,h5];rfl
end
theorem aoz:qP Tryz.prog 63 3:=by
 intro x y xs ys w hx hy
 match xs,ys,hx,hy with
 |[a0,a1,a2],[b0,b1,b2],_,_=>
  constructor
  ·simp only[iv,List.map];go_simp;simp[cF]
  ·simp only[iv,List.map];go_simp;simp[cF]
theorem aoA:qP Tryz.prog 65 5:=by
 intro x y xs ys w hx hy
 match xs,ys,hx,hy with
 |[a0,a1,a2,a3,a4],[b0,b1,b2,b3,b4],_,_=>
  constructor
  ·simp only[iv,List.map];go_simp;simp[cF]
  ·simp only[iv,List.map];go_simp;simp[cF]
theorem aoB:qP Tryz.prog 67 8:=by
 intro x y xs ys w hx hy
 match xs,ys,hx,hy with
 |[a0,a1,a2,a3,a4,a5,a6,a7],[b0,b1,b2,b3,b4,b5,b6,b7],_,_=>
  constructor
  ·simp only[iv,List.map];go_simp;simp[cF]
  ·simp only[iv,List.map];go_simp;simp[cF]
theorem aoC:qP Tryz.prog 92 5:=by
 intro x y xs ys w hx hy
 match xs,ys,hx,hy with
 |[a0,a1,a2,a3,a4],[b0,b1,b2,b3,b4],_,_=>
  constructor
  ·simp only[iv,List.map];go_simp;simp[cF]
  ·simp only[iv,List.map];go_simp;simp[cF]
theorem aoD:qP Tryz.prog 252 2:=by
 intro x y xs ys w hx hy
 match xs,ys,hx,hy with
 |[a0,a1],[b0,b1],_,_=>
  constructor
  ·simp only[iv,List.map];go_simp;by_cases h0:a0=b0<;>by_cases h1:a1=b1<;>simp[h0,h1]
  ·simp only[iv,List.map];go_simp;by_cases h0:a0=b0<;>by_cases h1:a1=b1<;>simp[h0,h1]
def dc:List (Nat×Nat):=[(63,3),(65,5),(67,8),(92,5),(252,2)]
theorem VF:∀p∈dc,qP Tryz.prog p.1 p.2:=by
 intro p hp;simp only[dc,bZ,kB,lO] at hp
 rcases hp with rfl|rfl|rfl|rfl|rfl
 ·exact aoz
 ·exact aoA
 ·exact aoB
 ·exact aoC
 ·exact aoD
section
variable {P:Program}
variable {o:Oper} {t:TypeId} {x:Operand} {y:aP}
theorem aoE(ho:o.op=.call { callee:=.builtin .len,args:=#[x],argTypes:=#[t] })(ht:P.underlying t=some .string)(hx:dv x y):
  jG P false o (fun st _=>match st.sc y with |some (.string s)=>some (.w (.c (.v (.int .i64 s.size))))|_=>none):=by
 intro N F M w0 w st G H a U r h hr;dsimp only at hr;split at hr
 case h_2=>cases hr
 rename_i s hs;simp only[aC] at hr;subst hr;obtain⟨e1,_⟩:=h.sc hx hs;refine⟨_,IR.v _ rfl,fun w' _=> ?_⟩;unfold execOp;simp[ho,resolve,e1,invoke,Go.builtin,Builtin.len_,lL ht,goInt]
theorem aoF(w:World)(n l h:Nat)(lo hi:Option Value)(nI:(lo=none/\l=0)\/∃k,lo=some (.int k l))(iE:(hi=none/\h=n)\/∃k,hi=some (.int k h))(h1:l<=h)(h2:h<=n):
  (Instr.sliceBounds false n n lo hi none).run P w=.ok (l,h,n) w:=by
 have e1:∀(k:IntKind) (code:BoundsCode),(Instr.sliceBound (.int k h) n code).run P w=.ok h w:=fun k code=>by rw[run_sliceBound w k h n code ab ab];simp
 have e2:∀(k:IntKind) (code:BoundsCode),(Instr.sliceBound (.int k l) h code).run P w=.ok l w:=fun k code=>by rw[run_sliceBound w k l h code ab ab];simp
 rcases nI with⟨rfl,rfl⟩|⟨k,rfl⟩<;>rcases iE with⟨rfl,rfl⟩|⟨k',rfl⟩<;>simp[Instr.sliceBounds,e1,e2]
theorem aoG{lo hi:Option Operand}{pC hi':Option aP}(ho:o.op=.slice t x lo hi none)(hu:P.underlying t=some .string)(hx:dv x y)(nI:IQ lo pC)(iE:IQ hi hi'):
  jG P false o (fun st _=>match st.sc y with
   |some (.string s)=>match CH st pC,vh st s.size hi' with
    |some l,some h=>if l<=h/\h<=s.size then some (.w (.c (.v (.string (s.extract l h))))) else none
    |_,_=>none
   |_=>none):=by
 intro N F M w0 w st G H a U r h hr;dsimp only at hr;split at hr
 case h_2=>cases hr
 rename_i s hs;split at hr
 case h_2=>cases hr
 rename_i l hh cq wL;split at hr
 case isFalse=>cases hr
 rename_i hb;obtain⟨h1,h2⟩:=hb;simp only[aC] at hr;subst hr;obtain⟨e1,_⟩:=h.sc hx hs;refine⟨_,IR.v _ rfl,fun w' _=> ?_⟩
 have Vk:((lo.map a.eval)=none/\l=0)\/∃k,lo.map a.eval=some (.int k l):=by
  cases lo with
  |none=>cases pC with
   |none=>simp[CH] at cq;exact .inl ⟨rfl,cq.symm⟩
   |some=>exact nI.elim
  |some p=>cases pC with
   |none=>exact nI.elim
   |some q=>
    obtain⟨k,e⟩:=h.bound nI cq;exact .inr ⟨k,by simp[e]⟩
 have IU:((hi.map a.eval)=none/\hh=s.size)\/∃k,hi.map a.eval=some (.int k hh):=by
  cases hi with
  |none=>cases hi' with
   |none=>simp[vh] at wL;exact .inl ⟨rfl,wL.symm⟩
   |some=>exact iE.elim
  |some p=>cases hi' with
   |none=>exact iE.elim
   |some q=>
    obtain⟨k,e⟩:=h.bound iE wL;exact .inr ⟨k,by simp[e]⟩
 unfold execOp;simp[ho,e1,Instr.sliceAt,Instr.slice,lL hu,aoF w' s.size l hh _ _ Vk IU h1 h2]
theorem aoH{t':TypeId}{k':IntKind}(ho:o.op=.convert t t' x)(hs:(P.underlying t).isSome=true)(hd:P.underlying t'=some (.int k'))(hx:dv x y):
  jG P false o (fun st _=>match st.sc y with |some (.int _ n)=>if k'.wrap n=n then some (.w (.c (.v (.int k' n)))) else none|_=>none):=by
 intro N F M w0 w st G H a U r h hr;dsimp only at hr;split at hr
 case h_2=>cases hr
 rename_i k n hn;split at hr
 case isFalse=>cases hr
 rename_i hw;simp only[aC] at hr;subst hr;obtain⟨e1,_⟩:=h.sc hx hn;refine⟨_,IR.v _ rfl,fun w' _=> ?_⟩;obtain⟨d,Fq⟩:=PA.mp hs;unfold execOp;simp[ho,e1,convert,lL hd,lL Fq,Conv.intToInt,hw]
theorem aoI{x1 x2 x3:Operand}{y1 y2 y3:aP}{ts:Array TypeId}(ho:o.op=.call { callee:=.builtin .max,args:=#[x1,x2,x3],argTypes:=ts })(h1:dv x1 y1)(h2:dv x2 y2)(h3:dv x3 y3):
  jG P false o (fun st _=>match st.sc y1,st.sc y2,st.sc y3 with |some (.int .i64 a),some (.int .i64 b),some (.int .i64 c)=>some (.w (.c (.v (.int .i64 (max (max a b) c)))))|_,_,_=>none):=by
 intro N F M w0 w st G H a U r h hr;dsimp only at hr;split at hr
 case h_2=>cases hr
 rename_i x y z hu hv hw;obtain⟨e1,s1⟩:=h.sc h1 hu;obtain⟨e2,s2⟩:=h.sc h2 hv;obtain⟨e3,s3⟩:=h.sc h3 hw;simp only[aC] at hr;subst hr;refine⟨_,IR.v _ rfl,fun w' _=> ?_⟩;unfold execOp;have q1:max x y=if x<y then y else x:=ab;have q2:max (max x y) z=if(if x<y then y else x)<z then z else if x<y then y else x:=ab;simp[ho,resolve,e1,e2,e3,invoke,Go.builtin,Builtin.max_,Builtin.max2,q2]
theorem aoJ(ho:o.op=.nilCheck x)(hx:dv x y):
  jG P false o (fun st _=>match st.cells [] 0 (st.arg y),st.arg y with |some _,some p=>some p|_,_=>none):=by
 intro N F M w0 w st G H a U r h hr;dsimp only at hr;split at hr
 case h_2=>cases hr
 rename_i cs p hc hp;simp only[aC] at hr;subst hr;rw[hp] at hc;obtain⟨b,off,us,e1,hlt,hU,hr,hcs,hl⟩:=h.cells (h.arg hx hp) hc;refine⟨_,h.arg hx hp,fun w' _=> ?_⟩;unfold execOp;simp[ho,e1]
end
section
variable {P:Program}
variable {e t:TypeId} {o:Oper} {x:Operand}
theorem aoK{U:Option (List Nat)}{k s:Nat}{it:TypeInfo}{zv:Value}{za:List AC}{q:aP}(ho:o.op=.makeSlice t x x)(hu:P.underlying t=some (.slice e))(hi:P.info? e=some it)(hz:it.zero=some zv)(hs:it.size=k)(bj:0<k)(mG:zv.cells.size=k)(jB:it.bytes<=1000)
  (h3:CI zv.cells.toList=some za) (hx:dv x q):
  nK P U o (fun st X=>∃n:Nat,st.sc q=some (.int .i64 n)/\n<=1000000/\(cQ k n za).all inl=true/\(aH st.S s).isSome=true/\X (.w (.c (.own s ((st.slot s).gen+1)))) (st.bR s (.row e k ((st.slot s).gen+1) (rowsOf k n (cQ k n za))))):=by
 intro N F M w0 w st G H a X hR hsm K Q hK;obtain⟨n,e1,e2,e3,bN,hX⟩:=hsm;obtain⟨aF,-⟩:=hR.sc hx e1
 have hrun:=run_make (P:=P) w t e it zv hu hi hz .i64 .i64 (n:Int) (n:Int) ab ab (by
  have:it.bytes*n<=1000*1000000:=oY jB e2;have:((it.bytes*n:Nat):Int)<=281474976710656:=ab
  rwa[Int.natCast_mul] at this) ab
 simp only[iZ,hs] at hrun;have hcs:cp w (aZ M st.slot G H) st.slot G H (cQ k n za) (madeCells zv.cells (n*k)).toList:=Vs (Vp h3) mG bj
 have hl:(cQ k n za).length=n*k:=by simp[cQ]
 have how:(w.alloc (.cells (madeCells zv.cells (n*k)) e)).ownsRow 0 e k (.slice (some ⟨w.heap.size,0,none⟩) n n) n (madeCells zv.cells (n*k)).toList:=by
  have:=World.ownsRow_lit (base:=w.heap.size) (e:=e) (size:=k) w (madeCells zv.cells (n*k)) n aA (by simp only[maxLen];omega) (by simp[madeCells]);exact(by simpa using this:(w.alloc (.cells (madeCells zv.cells (n*k)) e)).ownsRow w.heap.size e k _ n _).mono (Ai _)
 obtain⟨bI,hst⟩:=hR.newRow (w':=w.alloc (.cells (madeCells zv.cells (n*k)) e)) s bN (e:=e) (k:=k) (es:=rowsOf k n (cQ k n za)) (by simp[rowsOf]) how (.inl (acD w _ _)) (fun b hb=> .inr (by simp[Value.ownBlock] at hb;omega)) (fun w2 A2 hm=>(Qe hl hcs e3).map hm);have hx:=hK _ _ _ _ (.slice (some ⟨w.heap.size,0,none⟩) n n) _ hX bI (hst U (.inr fun b hlt=>alloc_old w _ hlt)) ⟨rfl,by rw[St.lV,aj ⟨rfl,bN⟩];exact cI _,fun _ _ _ _=>ai⟩;unfold Oper.wp execOp;simp only[ho,nX,aF,hrun,qw,rP];exact hx
theorem aoL{y:aP}(ho:o.op=.call { callee:=.builtin .len,args:=#[x],argTypes:=#[t] })(ht:P.underlying t=some (.slice e))(hx:dv x y):
  jG P false o (fun st _=>match st.rows [] (st.arg y) with |some es=>some (.w (.c (.v (.int .i64 es.length))))|none=>none):=by
 intro N F M w0 w st G H a U r h hr;dsimp only at hr;split at hr
 case h_2=>cases hr
 rename_i es hu;simp only[aC] at hr;subst hr;obtain⟨ad,c,e1,_,_⟩:=h.rows hx hu;refine⟨_,IR.v _ rfl,fun w' _=> ?_⟩;unfold execOp;simp[ho,resolve,e1,invoke,Go.builtin,Builtin.len_,lL ht,goInt]
end
variable {P:Program} {o:Oper} {t:TypeId} {x:Operand}
inductive eD where
 |mv (x:aP)
 |Fs (s e k:Nat)
 |bin (op:BinOp) (x y:aP)
 |un (op:UnOp) (x:aP)
 |pick (c x y:aP)
 |len (x:aP)
 |mm (mx:Bool) (x y:aP)
 |ld1 (p:aP)
 |CA (n:Nat) (p:aP)
 |tr (p:aP) (off:Nat)
 |idx (k:Nat) (x i:aP)
 |CB (n k:Nat) (p i:aP)
 |pB (k:Nat) (x:aP) (lo hi:Option aP)
 |ext (x:aP) (i:Nat)
 |CC (x i:aP)
 |eqs (neg:Bool) (n:Nat) (x y:aP)
 |CD (za:List AC) (qs:List (Nat×Nat×aP))
 |box (s:Nat) (x:aP)
 |alloc (s:Nat) (za:List AC)
 |tD (k n:Nat) (za:List AC) (qs:List (Nat×Nat×aP))
 |yD (s e k n:Nat) (za:List AC) (qs:List (Nat×Nat×aP))
 |app (e k:Nat) (x y:aP)
 |call (f:FuncId) (ys:List aP)
 |mH (f:FuncId) (ys:List aP) (D:List Nat)
 |store (n:Nat) (p x:aP)
 |CM (k:Nat) (za:List AC) (x:aP)
 |AA (x:aP)
 |Ft (x:aP) (lo hi:Option aP)
 |Fu (k:IntKind) (x:aP)
 |AB (x:aP)
 |Fv (x y z:aP)
 |Fw (s e k:Nat) (za:List AC) (x:aP)
 |pH (D:List Nat) (n:Nat) (p x:aP)
variable {op:eD}
def bY:eD->Option (Bool×(St->List Nat->Option AV))
 | .mv x=>some (false,fun st _=>st.arg x)
 | .bin op x y=>some (false,fun st _=>match st.sc x,st.sc y with |some u,some v=>(bt op u v).map fun r=> .w (.c (.v r))|_,_=>none)
 | .un op x=>some (false,fun st _=>match st.sc x with |some u=>(CE op u).map fun r=> .w (.c (.v r))|_=>none)
 | .pick c x y=>some (false,fun st _=>match st.sc c with |some (.bool true)=>st.arg x|some (.bool false)=>st.arg y|_=>none)
 | .len x=>some (false,fun st _=>match st.rows [] (st.arg x) with |some es=>some (.w (.c (.v (.int .i64 es.length))))|none=>none)
 | .mm mx x y=>some (false,fun st _=>match st.sc x,st.sc y with |some u,some v=>(Fc mx u v).map fun r=> .w (.c (.v r))|_,_=>none)
 | .ld1 p=>some (true,fun st U=>match st.cells U 1 (st.arg p) with |some (c::_)=>some (.w (.c c))|_=>none)
 | .CA n p=>some (true,fun st U=>match st.cells U n (st.arg p) with |some cs=>some (.w (.agg cs))|_=>none)
 | .tr p off=>some (false,fun st _=>match st.cells [] 0 (st.arg p),st.arg p with |some _,some q=>some (q.shift off)|_,_=>none)
 | .idx k x i=>some (false,fun st _=>CF k (st.rows [] (st.arg x)) (st.arg x) (st.sc i))
 | .CB n k p i=>some (false,fun st _=>PX n k (st.cells [] 0 (st.arg p)) (st.arg p) (st.sc i))
 | .pB k x lo hi=>some (false,fun st _=>match st.arg x with
   |some (.w (.c (.sl es)))=>match CH st lo,vh st es.length hi with
    |some l,some h=>if l<=h/\h<=es.length/\∀row∈es,row.length=k then some (.w (.c (.sl ((es.take h).drop l)))) else none
    |_,_=>none
   |_=>none)
 | .ext x i=>some (false,fun st _=>match st.arg x with |some (.cg vs)=>(vs[i]?).map .w|_=>none)
 | .CC x i=>some (false,fun st _=>match st.sc x,st.sc i with |some (.string s),some (.int _ n)=>if h:0<=n/\n.toNat<s.size then some (.w (.c (.v (.int .u8 (s.get n.toNat h.2).toNat)))) else none|_,_=>none)
 | .eqs neg n x y=>some (false,fun st _=>Ql neg n (st.arg x) (st.arg y))
 | .CD za qs=>some (false,fun st _=>match pD st qs with |some r=>(mF za r).map fun cs=> .w (.agg cs)|none=>none)
 | .AA x=>some (false,fun st _=>match st.sc x with |some (.string s)=>some (.w (.c (.v (.int .i64 s.size))))|_=>none)
 | .Ft x lo hi=>some (false,fun st _=>match st.sc x with
   |some (.string s)=>match CH st lo,vh st s.size hi with
    |some l,some h=>if l<=h/\h<=s.size then some (.w (.c (.v (.string (s.extract l h))))) else none
    |_,_=>none
   |_=>none)
 | .Fu k x=>some (false,fun st _=>match st.sc x with |some (.int _ n)=>if k.wrap n=n then some (.w (.c (.v (.int k n)))) else none|_=>none)
 | .AB p=>some (false,fun st _=>match st.cells [] 0 (st.arg p),st.arg p with |some _,some q=>some q|_,_=>none)
 | .Fv x y z=>some (false,fun st _=>match st.sc x,st.sc y,st.sc z with |some (.int .i64 a),some (.int .i64 b),some (.int .i64 c)=>some (.w (.c (.v (.int .i64 (max (max a b) c)))))|_,_,_=>none)
 |_=>none
def Jd (ev:St->List Nat->Option AV):Fj:=fun st X=>∃x,ev st []=some x/\X x st
def aoM (x:aP)(hi:Option aP):Fj:=fun st X=>∃s g e k es h,st.arg x=some (.w (.c (.own s g)))/\aH st.S s=some (.row e k g es)/\vh st es.length hi=some h/\h<=es.length/\X (.w (.c (.own s (g+1)))) (st.bR s (.row e k (g+1) (es.take h)))
def rZ (P:Program)(U:Option (List Nat)):eD->Fj
 | .Fs s e k=>fun st X=>(aH st.S s).isSome=true/\X (.w (.c (.own s ((st.slot s).gen+1)))) (st.bR s (.row e k ((st.slot s).gen+1) []))
 | .box s x=>fun st X=>∃xw,st.arg x=some (.w xw)/\(aH st.S s).isSome=true/\X (.pb s ((st.slot s).gen+1) 0) (st.bR s (.box ((st.slot s).gen+1) xw.cells))
 | .alloc s za=>fun st X=>(aH st.S s).isSome=true/\X (.pb s ((st.slot s).gen+1) 0) (st.bR s (.box ((st.slot s).gen+1) za))
 | .tD k n za qs=>fun st X=>∃pr cs,pD st qs=some pr/\mF (cQ k n za) pr=some cs/\cs.all inl=true/\X (.w (.c (.sl (rowsOf k n cs)))) st
 | .yD s e k n za qs=>fun st X=>∃pr cs,pD st qs=some pr/\mF (cQ k n za) pr=some cs/\cs.all inl=true/\(aH st.S s).isSome=true/\X (.w (.c (.own s ((st.slot s).gen+1)))) (st.bR s (.row e k ((st.slot s).gen+1) (rowsOf k n cs)))
 | .app e k x y=>fun st X=>∃s g es ys,st.arg x=some (.w (.c (.own s g)))/\aH st.S s=some (.row e k g es)/\st.rows [s] (st.arg y)=some ys/\(∀row∈ys,row.length=k)/\es.length+ys.length<=100000000/\wJ U s/\X (.w (.c (.own s (g+1)))) (st.bR s (.row e k (g+1) (es++ys)))
 | .call f ys=>fun st X=>∃ws R,nL st ys=some ws/\bu P f ws R/\∀r,R r->X r st
 | .mH f ys D=>acT P U f ys D
 | .store n p x=>fun st X=>∃xw st',st.arg x=some (.w xw)/\xw.cells.length=n/\st.store xw.cells (st.arg p)=some st'/\(∀s,LR (st.arg p)=some s->wJ U s)/\X .u st'
 | .pH D n p x=>fun st0 X=>(fun(st:St) (X:AV->St->Prop)=>∃xw st',st.arg x=some (.w xw)/\xw.cells.length=n/\st.store xw.cells (st.arg p)=some st'/\(∀s,LR (st.arg p)=some s->wJ U s)/\X .u st') (ox D st0) X
 | .CM k za x=>fun st X=>∃n:Nat,st.sc x=some (.int .i64 n)/\n<=1000000/\(cQ k n za).all inl=true/\X (.w (.c (.sl (rowsOf k n (cQ k n za))))) st
 | .Fw s e k za x=>fun st X=>∃n:Nat,st.sc x=some (.int .i64 n)/\n<=1000000/\(cQ k n za).all inl=true/\(aH st.S s).isSome=true/\X (.w (.c (.own s ((st.slot s).gen+1)))) (st.bR s (.row e k ((st.slot s).gen+1) (rowsOf k n (cQ k n za))))
 | .pB k x none hi=>fun st X=>match st.arg x with
   |some (.w (.c (.own _ _)))=>aoM x hi st X
   |_=>Jd (fun st _=>match st.arg x with
    |some (.w (.c (.sl es)))=>match CH st none,vh st es.length hi with
     |some l,some h=>if l<=h/\h<=es.length/\∀row∈es,row.length=k then some (.w (.c (.sl ((es.take h).drop l)))) else none
     |_,_=>none
    |_=>none) st X
 |op=>match bY op with
  |some (_,ev)=>Jd ev
  |none=>fun _ _=>False
def mk (P:Program)(d:Option Nat)(g:Option (Nat×Bool))(op:eD):AO:=⟨d,g,fun U=>rZ P U op,bY op⟩
def dP:Operand->Option aP
 | .tmp t=>some (.t t)
 | .const v=>match v with
  | .slice none 0 0=>some (.k (.c (.sl [])))
  |v=>if Cx v then some (.k (.c (.v v))) else none
 |_=>none
theorem dw{y:aP}(h:dP x=some y):dv x y:=by
 cases x with
 |tmp t=>simp only[dP,aC] at h;subst h;rfl
 |const v=>
  simp only[dP] at h;split at h
  ·simp only[aC] at h;subst h;rfl
  ·split at h
   ·rename_i hs;simp only[aC] at h;subst h;exact⟨rfl,hs⟩
   ·cases h
 |global g=>cases h
 |func f=>cases h
def CN:Option Operand->Option (Option aP)
 |none=>some none
 |some x=>(dP x).map some
theorem Ma{x:Option Operand}{y:Option aP}(h:CN x=some y):IQ x y:=by
 cases x with
 |none=>simp only[CN,aC] at h;subst h;trivial
 |some x=>
  simp only[CN,bK] at h;obtain⟨z,hz,rfl⟩:=h;exact dw hz
def Mb:List Operand->Option (List aP)
 |[]=>some []
 |x::l=>match dP x,Mb l with
  |some y,some r=>some (y::r)
  |_,_=>none
theorem Qm:∀{xs:List Operand} {ys:List aP},Mb xs=some ys->IX xs ys
 |[],ys,h=>by simp only[Mb,aC] at h;subst h;trivial
 |x::xs,ys,h=>by
  unfold Mb at h;split at h
  ·rename_i y r h1 h2;simp only[aC] at h;subst h;exact⟨dw h1,Qm h2⟩
  ·cases h
def Je (pl:Nat->Option (Nat×Nat)):List (Nat×Operand)->Option (List (Nat×Nat×aP))
 |[]=>some []
 |(i,x)::l=>match pl i,dP x,Je pl l with
  |some (off,size),some y,some r=>some ((off,size,y)::r)
  |_,_,_=>none
theorem Qo {pl:Nat->Option (Nat×Nat)}:∀{xs:List (Nat×Operand)} {ys:List (Nat×Nat×aP)},Je pl xs=some ys->Fi pl xs ys
 |[],ys,h=>by simp only[Je,aC] at h;subst h;trivial
 |(i,x)::xs,ys,h=>by
  unfold Je at h;split at h
  ·rename_i off size y r h0 h1 h2;simp only[aC] at h;subst h;exact⟨h0,dw h1,Qo h2⟩
  ·cases h
def sz (P:Program)(t:TypeId):Option Nat:=(P.info? t).map (·.size)
def elemOf (P:Program)(t:TypeId):Option TypeId:=match P.underlying t with
 |some (.slice e)=>some e
 |_=>none
theorem CO{e:TypeId}(h:elemOf P t=some e):P.underlying t=some (.slice e):=by
 unfold elemOf at h;split at h
 ·rename_i hu;simp only[aC] at h;subst h;exact hu
 ·cases h
def qQ (P:Program)(o:Oper)(op:eD):Prop:=(∀U,nK P U o (rZ P U op))/\∀m e,bY op=some (m,e)->jG P m o e
theorem kN{m:Bool}{ev:St->List Nat->Option AV}(he:bY op=some (m,ev))(hs:∀U,rZ P U op=Jd ev)(h:jG P m o ev):qQ P o op:=
 ⟨fun U=>by rw[hs U];exact acJ h,fun m' e' h'=>by rw[he] at h';cases h';exact h⟩
theorem tE(he:bY op=none)(h:∀U,nK P U o (rZ P U op)):qQ P o op:=⟨h,fun m e h'=>by rw[he] at h';cases h'⟩
structure fX where
 base:Nat
 owns:List Nat
 VG:List (Nat×List Nat)
 lz:List (Nat×List Nat)
 eqs:List (Nat×Nat)
 aoN:List (Nat×List Nat)
 VH:List (Nat×List (Nat×Nat×Nat×Nat×Nat))
def Qp (P:Program)(owns:fX)(dst:Option Nat)(ty:TypeId)(x:Operand):Option eD:=match dst with
 |some d=>if owns.owns.contains d then match x with
   | .const (.slice none 0 0)=>match elemOf P ty with
    |some e=>(sz P e).map fun k=> .Fs (owns.base+d) e k
    |none=>none
   |_=>(dP x).map .mv
  else(dP x).map .mv
 |none=>none
def VJ (P:Program)(t:TypeId)(x:Operand):Option eD:=match P.underlying t,dP x with
 |some d,some y=>if d.isRow then(sz P t).map fun n=> .CA n y else some (.ld1 y)
 |_,_=>none
def aoO (owns:fX):Operand->List Nat
 | .tmp i=>(aH owns.lz (1000000+i)).getD []
 |_=>[]
def VK (P:Program)(owns:fX)(t:TypeId)(x z:Operand):Option eD:=match sz P t,dP x,dP z with
 |some n,some y,some q=>match aoO owns x with
  |[]=>some (.store n y q)
  |s::r=>some (.pH (s::r) n y q)
 |_,_,_=>none
def VL (P:Program)(t:TypeId)(x:Operand)(f:Nat):Option eD:=match P.underlying t,dP x with
 |some (.struct fs),some y=>match fs[f]? with
  |some fd=>match sz P fd.type with
   |some z=>if z≠0 then some (.tr y fd.offset) else none
   |none=>none
  |none=>none
 |_,_=>none
def VN (P:Program)(t:TypeId)(x z:Operand):Option eD:=match P.underlying t,dP x,dP z with
 |some (.slice e),some y,some q=>match sz P e with
  |some k=>if 0<k then some (.idx k y q) else none
  |none=>none
 |some (.array n e),some y,some q=>(sz P e).map fun k=> .CB n k y q
 |_,_,_=>none
def isStr (P:Program)(t:TypeId):Bool:=match P.underlying t with
 |some .string=>true
 |_=>false
theorem ade(h:isStr P t=true):P.underlying t=some .string:=by
 unfold isStr at h;split at h
 ·assumption
 ·cases h
def VO (P:Program)(t:TypeId)(x:Operand)(lo hi mx:Option Operand):Option eD:=match isStr P t with
 |true=>match mx,dP x,CN lo,CN hi with
  |none,some y,some pC,some hi'=>some (.Ft y pC hi')
  |_,_,_,_=>none
 |false=>match mx,elemOf P t,dP x,CN lo,CN hi with
  |none,some e,some y,some pC,some hi'=>(sz P e).map fun k=> .pB k y pC hi'
  |_,_,_,_,_=>none
def adf (P:Program)(t t':TypeId)(x:Operand):Option eD:=match P.underlying t,P.underlying t',dP x with
 |some _,some (.int k),some y=>some (.Fu k y)
 |_,_,_=>none
def adg (owns:fX)(dst:Option Nat):List Nat:=match dst with
 |some d=>(aH owns.aoN d).getD []
 |none=>[]
def VP (P:Program)(owns:fX)(dst:Option Nat)(t:TypeId)(ps:Array (Nat×Operand)):Option eD:=match placesOf P t,zeroOf P t with
 |some pl,some z=>match Av (adg owns dst) 0 z,Je pl ps.toList with
  |some za,some qs=>some (.CD za qs)
  |_,_=>none
 |_,_=>none
def VQ (P:Program)(owns:fX)(dst:Option Nat)(t:TypeId)(n:Nat)(ps:Array (Nat×Operand)):Option eD:=match elemOf P t with
 |some e=>match sz P e,zeroOf P e with
  |some k,some z=>match CI z,Je (fun i=>some (i*k,k)) ps.toList with
   |some za,some qs=>if 0<k/\z.length=k/\n*k<=16777216 then match dst with
     |some d=>if owns.owns.contains d then some (.yD (owns.base+d) e k n za qs) else some (.tD k n za qs)
     |none=>none
    else none
   |_,_=>none
  |_,_=>none
 |none=>none
def VS:Operand->Operand->Bool
 | .tmp a,.tmp b=>a==b
 | .const (.int .i64 n),.const (.int .i64 m)=>n==m
 |_,_=>false
theorem aoP{y:Operand}(h:VS x y=true):x=y:=by
 unfold VS at h;split at h
 ·simp at h;rw[h]
 ·simp at h;rw[h]
 ·cases h
def VT (P:Program)(owns:fX)(dst:Option Nat)(t:TypeId)(x:Operand):Option eD:=match elemOf P t,dP x with
 |some e,some q=>match P.info? e with
  |some it=>match it.zero with
   |some zv=>if zv.cells.size=it.size/\0<it.size/\it.bytes<=1000 then match CI zv.cells.toList,dst with
    |some za,some d=>if owns.owns.contains d then some (.Fw (owns.base+d) e it.size za q) else some (.CM it.size za q)
    |_,_=>none else none
   |none=>none
  |none=>none
 |_,_=>none
def VU (P:Program)(x z:Operand)(t t':TypeId):Option eD:=if t=t' then match elemOf P t,dP x,dP z with
 |some e,some y,some q=>match P.info? e with
  |some it=>match it.zero with
   |some zv=>if zv.cells.size=it.size/\0<it.size/\it.bytes<=1000 then some (.app e it.size y q) else none
   |none=>none
  |none=>none
 |_,_,_=>none
 else none
def aoQ (owns:fX)(dst:Option Nat)(f:FuncId):Option (List Nat):=match dst with
 |some d=>match aH owns.VG (1000000+d) with
  |some D=>some D
  |none=>aH owns.VG f
 |none=>aH owns.VG f
def VV (P:Program)(owns:fX)(dst:Option Nat)(c:Call):Option eD:=match c.callee with
 | .value (.func f)=>match P.funcs[f]? with
  |some fn=>if(fn.name== "runtime.NumGoroutine")=false/\fn.body.isNone=false then(Mb c.args.toList).map fun ys=>match aoQ owns dst f with
    |some []=> .call f ys
    |some D=> .mH f ys D
    |none=> .call f ys
   else none
  |none=>none
 | .builtin .len=>match c.args.toList,c.argTypes.toList with
  |[x],[t]=>match isStr P t with
   |true=>(dP x).map .AA
   |false=>match elemOf P t,dP x with
    |some _,some y=>some (.len y)
    |_,_=>none
  |_,_=>none
 | .builtin .append=>match c.args.toList,c.argTypes.toList with
  |[x,z],[t,t']=>VU P x z t t'
  |_,_=>none
 | .builtin .max=>match c.args.toList with
  |[x,z]=>match dP x,dP z with
   |some y,some q=>some (.mm true y q)
   |_,_=>none
  |[x,z,t]=>match dP x,dP z,dP t with
   |some y,some q,some r=>some (.Fv y q r)
   |_,_,_=>none
  |_=>none
 | .builtin .min=>match c.args.toList with
  |[x,z]=>match dP x,dP z with
   |some y,some q=>some (.mm false y q)
   |_,_=>none
  |_=>none
 |_=>none
def Qq (P:Program)(owns:fX)(o:Oper):Option eD:=match o.op with
 | .move x=>Qp P owns o.dst o.type x
 | .assign x=>Qp P owns o.dst o.type x
 | .binOp op t x y _=>match dP x,dP y with
  |some a,some b=>match op,aH owns.eqs t with
   | .eql,some n=>some (.eqs false n a b)
   | .neq,some n=>some (.eqs true n a b)
   |_,_=>some (.bin op a b)
  |_,_=>none
 | .unOp op _ x=>(dP x).map fun y=> .un op y
 | .pick c x y=>match dP c,dP x,dP y with
  |some a,some b,some d=>some (.pick a b d)
  |_,_,_=>none
 | .load t x=>VJ P t x
 | .store t x z=>VK P owns t x z
 | .fieldAddr t x f=>VL P t x f
 | .indexAddr t x z=>VN P t x z
 | .slice t x lo hi mx=>VO P t x lo hi mx
 | .extract x i=>(dP x).map fun y=> .ext y i
 | .index t x z=>match P.underlying t,dP x,dP z with
  |some .string,some y,some q=>some (.CC y q)
  |_,_,_=>none
 | .build t ps=>VP P owns o.dst t ps
 | .buildSlice t n ps=>VQ P owns o.dst t n ps
 | .box _ x=>match o.dst,dP x with
  |some d,some y=>some (.box (owns.base+d) y)
  |_,_=>none
 | .alloc t=>match o.dst,zeroOf P t with
  |some d,some z=>(Av (adg owns (some d)) 0 z).map fun za=> .alloc (owns.base+d) za
  |_,_=>none
 | .call c=>VV P owns o.dst c
 | .makeSlice t x y=>if VS x y=true then VT P owns o.dst t x else none
 | .convert t t' x=>adf P t t' x
 | .nilCheck x=>(dP x).map .AB
 |_=>none
section
variable {P:Program} {owns:fX} {o:Oper} {op:eD}
variable {dst:Option Nat} {ps:Array (Nat×Operand)} {t:TypeId} {x z:Operand}
theorem adh(ho:o.op=.move x\/o.op=.assign x)(h:Qp P owns o.dst o.type x=some op):qQ P o op:=by
 have mv:(dP x).map eD.mv=some op->qQ P o op:=fun h=>by
  rw[bK] at h;obtain⟨y,hy,rfl⟩:=h;exact kN rfl (fun _=>rfl) (anC ho (dw hy))
 unfold Qp at h;split at h
 case h_2=>cases h
 split at h
 ·split at h
  ·split at h
   case h_2=>cases h
   rw[bK] at h;obtain⟨k,hk,rfl⟩:=h;exact tE rfl (fun U=>aoc (Or.symm ho))
  ·exact mv h
 ·exact mv h
theorem aoR(ho:o.op=.load t x)(h:VJ P t x=some op):qQ P o op:=by
 unfold VJ at h;split at h
 case h_2=>cases h
 rename_i d y hd hy;split at h
 ·rename_i hr;rw[bK] at h;obtain⟨n,hn,rfl⟩:=h;exact kN rfl (fun _=>rfl) (anH ho hd hr hn (dw hy))
 ·rename_i hr;simp only[aC] at h;subst h;exact kN rfl (fun _=>rfl) (anG ho hd (by simpa using hr) (dw hy))
theorem aoS(ho:o.op=.store t x z)(h:VK P owns t x z=some op):qQ P o op:=by
 unfold VK at h;split at h
 case h_2=>cases h
 rename_i n y q hn hy hq;split at h
 ·simp only[aC] at h;subst h;exact tE rfl (fun U=>acL ho hn (dw hy) (dw hq))
 ·simp only[aC] at h;subst h;exact tE rfl (fun U=>aop _ (acL ho hn (dw hy) (dw hq)))
theorem aoT{f:Nat}(ho:o.op=.fieldAddr t x f)(h:VL P t x f=some op):qQ P o op:=by
 unfold VL at h;split at h
 case h_2=>cases h
 rename_i fs y hu hy;split at h
 case h_2=>cases h
 rename_i fd hf;split at h
 case h_2=>cases h
 rename_i z hz;split at h
 case isFalse=>cases h
 rename_i dY;simp only[aC] at h;subst h;exact kN rfl (fun _=>rfl) (anI ho hu hf hz dY (dw hy))
theorem aoU(ho:o.op=.indexAddr t x z)(h:VN P t x z=some op):qQ P o op:=by
 unfold VN at h;split at h
 ·rename_i e y q hu hy hq;split at h
  case h_2=>cases h
  rename_i k hk;split at h
  case isFalse=>cases h
  rename_i bj;simp only[aC] at h;subst h;exact kN rfl (fun _=>rfl) (anJ ho hu hk bj (dw hy) (dw hq))
 ·rename_i n e y q hu hy hq;rw[bK] at h;obtain⟨k,hk,rfl⟩:=h;exact kN rfl (fun _=>rfl) (anL ho hu hk (dw hy) (dw hq))
 ·cases h
theorem aoV{lo hi mx:Option Operand}(ho:o.op=.slice t x lo hi mx)(h:VO P t x lo hi mx=some op):qQ P o op:=by
 unfold VO at h;split at h
 case h_1=>
  rename_i hst;split at h
  ·rename_i y pC hi' hy nI iE;simp only[aC] at h;subst h;exact kN rfl (fun _=>rfl) (aoG ho (ade hst) (dw hy) (Ma nI) (Ma iE))
  ·cases h
 split at h
 case h_2=>cases h
 rename_i e y pC hi' he hy nI iE;rw[bK] at h;obtain⟨k,hk,rfl⟩:=h;have yC:=anP ho (CO he) hk (dw hy) (Ma nI) (Ma iE)
 cases pC with
 |some p=>exact kN rfl (fun _=>rfl) yC
 |none=>
  cases lo with
  |some p=>simp[CN] at nI
  |none=>
   refine⟨fun U=> ?_,fun m e' h'=>by cases h';exact yC⟩;intro N F M w0 w st G H a X hR hs K Q hK;simp only[rZ] at hs;split at hs
   ·exact aog (hi':=hi') ho (CO he) hk (dw hy) (Ma iE) N F M w0 w st G H a X hR hs K Q hK
   ·exact acJ yC N F M w0 w st G H a X hR hs K Q hK
theorem aoW(ho:o.op=.build t ps)(h:VP P owns o.dst t ps=some op):qQ P o op:=by
 unfold VP at h;split at h
 case h_2=>cases h
 rename_i pl z ig hz;split at h
 case h_2=>cases h
 rename_i za qs AD wS;simp only[aC] at h;subst h;exact kN rfl (fun _=>rfl) (anT ho ig hz AD (Qo wS))
theorem aoX{n:Nat}(ho:o.op=.buildSlice t n ps)(h:VQ P owns o.dst t n ps=some op):qQ P o op:=by
 unfold VQ at h;split at h
 case h_2=>cases h
 rename_i e he;split at h
 case h_2=>cases h
 rename_i k z hk hz;split at h
 case h_2=>cases h
 rename_i za qs AD wS;split at h
 case isFalse=>cases h
 rename_i hc;obtain⟨h1,h2,h3⟩:=hc;split at h
 case h_2=>cases h
 split at h
 ·simp only[aC] at h;subst h;exact tE rfl (fun U=>aob ho (CO he) hk h1 h2 h3 hz AD (Qo wS))
 ·simp only[aC] at h;subst h;exact tE rfl (fun U=>aoa ho (CO he) hk h1 h2 h3 hz AD (Qo wS))
theorem adi{α:Type}{xs:Array α}{x:α}(h:xs.toList=[x]):xs=#[x]:=Array.ext' h
theorem Qr{α:Type}{xs:Array α}{x y:α}(h:xs.toList=[x,y]):xs=#[x,y]:=Array.ext' h
theorem aoY{α:Type}{xs:Array α}{x y z:α}(h:xs.toList=[x,y,z]):xs=#[x,y,z]:=Array.ext' h
theorem aoZ(ho:o.op=.makeSlice t x x)(h:VT P owns dst t x=some op):qQ P o op:=by
 unfold VT at h;split at h
 case h_2=>cases h
 rename_i e q he hq;split at h
 case h_2=>cases h
 rename_i it hit;split at h
 case h_2=>cases h
 rename_i zv hz;split at h
 case isFalse=>cases h
 rename_i hc;split at h
 case h_2=>cases h
 rename_i za d AD;split at h
 ·simp only[aC] at h;subst h;exact tE rfl (fun U=>aoK ho (CO he) hit hz rfl hc.2.1 hc.1 hc.2.2 AD (dw hq))
 ·simp only[aC] at h;subst h;exact tE rfl (fun U=>aot ho (CO he) hit hz rfl hc.2.1 hc.1 hc.2.2 AD (dw hq))
theorem apa{t':TypeId}(ho:o.op=.call { callee:=.builtin .append,args:=#[x,z],argTypes:=#[t,t'] })(h:VU P x z t t'=some op):qQ P o op:=by
 unfold VU at h;split at h
 case isFalse=>cases h
 rename_i ht;subst ht;split at h
 case h_2=>cases h
 rename_i e y q he hy hq;split at h
 case h_2=>cases h
 rename_i it hi;split at h
 case h_2=>cases h
 rename_i zv Vu;split at h
 case isFalse=>cases h
 rename_i hc;obtain⟨h1,h2,h3⟩:=hc;simp only[aC] at h;subst h;exact tE rfl (fun U=>aod (bytes:=it.bytes) (zv:=zv) ho (CO he) (by rw[hi];simp[Vu]) h1 h2 h3 (dw hy) (dw hq))
theorem apb{c:Call}(ho:o.op=.call c)(h:VV P owns dst c=some op):qQ P o op:=by
 obtain⟨callee,args,ts⟩:=c;unfold VV at h;dsimp only at h;split at h
 ·rename_i f;split at h
  case h_2=>cases h
  rename_i fn hf;split at h
  case isFalse=>cases h
  rename_i hc;rw[bK] at h;obtain⟨ys,hy,he⟩:=h;split at he
  ·subst he;exact tE rfl (fun U=>acR ho hf hc.1 hc.2 (Qm hy))
  ·subst he;exact tE rfl (fun U=>aoi ho hf hc.1 hc.2 (Qm hy))
  ·subst he;exact tE rfl (fun U=>acR ho hf hc.1 hc.2 (Qm hy))
 ·split at h
  case h_2=>cases h
  rename_i x t hx ht;rw[adi hx,adi ht] at ho;split at h
  case h_1=>
   rename_i hst;rw[bK] at h;obtain⟨y,hy,rfl⟩:=h;exact kN rfl (fun _=>rfl) (aoE ho (ade hst) (dw hy))
  split at h
  case h_2=>cases h
  rename_i e y he hy;simp only[aC] at h;subst h;exact kN rfl (fun _=>rfl) (aoL ho (CO he) (dw hy))
 ·split at h
  case h_2=>cases h
  rename_i x z t t' hx ht;rw[Qr hx,Qr ht] at ho;exact apa ho h
 ·split at h
  ·rename_i x z hx;split at h
   case h_2=>cases h
   rename_i y q hy hq;simp only[aC] at h;subst h;rw[Qr hx] at ho;exact kN rfl (fun _=>rfl) (acG (mx:=true) ho (dw hy) (dw hq))
  ·rename_i x z t hx;split at h
   case h_2=>cases h
   rename_i y q r hy hq hr;simp only[aC] at h;subst h;rw[aoY hx] at ho;exact kN rfl (fun _=>rfl) (aoI ho (dw hy) (dw hq) (dw hr))
  ·cases h
 ·split at h
  case h_2=>cases h
  rename_i x z hx;split at h
  case h_2=>cases h
  rename_i y q hy hq;simp only[aC] at h;subst h;rw[Qr hx] at ho;exact kN rfl (fun _=>rfl) (acG (mx:=false) ho (dw hy) (dw hq))
 ·cases h
theorem VW {α:Type}:∀{T:List (Nat×α)} {s:Nat} {x:α},aH T s=some x->(s,x)∈T
 |[],s,x,h=>by simp[aH] at h
 |(i,y)::T,s,x,h=>by
  simp only[aH] at h;split at h
  ·rename_i hi;simp only[aC] at h;subst hi;subst h;exact Lo
  ·exact kA _ (VW h)
theorem apc(hE:∀p∈owns.eqs,qP P p.1 p.2)(h:Qq P owns o=some op):qQ P o op:=by
 unfold Qq at h;split at h
 ·rename_i x ho;exact adh (.inl ho) h
 ·rename_i x ho;exact adh (.inr ho) h
 ·rename_i Mc t x y t' ho;split at h
  ·rename_i p q hp hq;split at h
   ·rename_i n hn;simp only[aC] at h;subst h;exact kN rfl (fun _=>rfl) (adb (neg:=false) ho (hE _ (VW hn)) (dw hp) (dw hq))
   ·rename_i n hn;simp only[aC] at h;subst h;exact kN rfl (fun _=>rfl) (adb (neg:=true) ho (hE _ (VW hn)) (dw hp) (dw hq))
   ·simp only[aC] at h;subst h;exact kN rfl (fun _=>rfl) (anD ho (dw hp) (dw hq))
  ·cases h
 ·rename_i Md t x ho;rw[bK] at h;obtain⟨y,hy,rfl⟩:=h;exact kN rfl (fun _=>rfl) (anE ho (dw hy))
 ·rename_i c x y ho;split at h
  ·rename_i p q r hp hq hr;simp only[aC] at h;subst h;exact kN rfl (fun _=>rfl) (anF ho (dw hp) (dw hq) (dw hr))
  ·cases h
 ·rename_i t x ho;exact aoR ho h
 ·rename_i t x z ho;exact aoS ho h
 ·rename_i t x f ho;exact aoT ho h
 ·rename_i t x z ho;exact aoU ho h
 ·rename_i t x lo hi mx ho;exact aoV ho h
 ·rename_i x i ho;rw[bK] at h;obtain⟨y,hy,rfl⟩:=h;exact kN rfl (fun _=>rfl) (anM ho (dw hy))
 ·rename_i t x z ho;split at h
  ·rename_i y q hu hy hq;simp only[aC] at h;subst h;exact kN rfl (fun _=>rfl) (anN ho hu (dw hy) (dw hq))
  ·cases h
 ·rename_i t ps ho;exact aoW ho h
 ·rename_i t n ps ho;exact aoX ho h
 ·rename_i t x ho;split at h
  ·rename_i d y hd hy;simp only[aC] at h;subst h;exact tE rfl (fun U=>anY ho (dw hy))
  ·cases h
 ·rename_i t ho;split at h
  ·rename_i d z hd hz;rw[bK] at h;obtain⟨za,AD,rfl⟩:=h;exact tE rfl (fun U=>anZ ho hz AD)
  ·cases h
 ·rename_i c ho;exact apb ho h
 ·rename_i t x y ho;split at h
  ·rename_i lr;obtain rfl:=aoP lr;exact aoZ ho h
  ·cases h
 ·rename_i t t' x ho;unfold adf at h;split at h
  ·rename_i d k y hd hk hy;simp only[aC] at h;subst h;exact kN rfl (fun _=>rfl) (aoH ho (by rw[hd];rfl) hk (dw hy))
  ·cases h
 ·rename_i x ho;rw[bK] at h;obtain⟨y,hy,rfl⟩:=h;exact kN rfl (fun _=>rfl) (aoJ ho (dw hy))
 ·cases h
end
structure BO where
 d:Option Nat
 g:Option (Nat×Bool)
 op:eD
inductive eR where
 |skip
 |ret
 |exit (id:Nat)
 |seq (x y:eR)
 |cond (t:aP) (x y:eR)
 |block (id:Nat) (c:eR)
 |loop (c:eR)
 |region (l:List BO)
 |rY (l:List BO) (n:Nat) (t:OT) (U:List Nat)
 |lz (s:Nat) (c:eR)
 |oz (b off s e k:Nat) (c:eR)
def BO.ao (P:Program)(b:BO):AO:=Ab.mk P b.d b.g b.op
def lift (P:Program):eR->oy
 | .skip=> .skip
 | .ret=> .ret
 | .exit id=> .exit id
 | .seq x y=> .seq (lift P x) (lift P y)
 | .cond t x y=> .cond t (lift P x) (lift P y)
 | .block id c=> .block id (lift P c)
 | .loop c=> .loop (lift P c)
 | .region l=> .region (l.map (BO.ao P))
 | .rY l n t U=> .rY (l.map (BO.ao P)) n t U
 | .lz s c=> .lz s (lift P c)
 | .oz b off s e k c=> .oz b off s e k (lift P c)
def Me:List Nat->eR->eR
 |[],b=>b
 |s::r,b=> .lz s (Me r b)
def Mf:List (Nat×Nat×Nat×Nat×Nat)->eR->eR
 |[],b=>b
 |(q,off,s,e,k)::r,b=> .oz q off s e k (Mf r b)
def adj (N:Nat):Option Nat->Bool
 |some d=>decide (d<N)
 |none=>true
def Mg (P:Program)(owns:fX)(N:Nat)(ops:Array Oper)(o:Oper):Option BO:=match Qq P owns o with
 |none=>none
 |some op=>if adj N o.dst=true then match o.guard with
   |none=>some ⟨o.dst,none,op⟩
   |some (j,want)=>match(ops[j]?).bind (·.dst) with
    |some t=>some ⟨o.dst,some (t,want),op⟩
    |none=>none
  else none
def CP (P:Program)(owns:fX)(N:Nat)(ops:Array Oper):List Oper->Option (List BO)
 |[]=>some []
 |o::r=>match Mg P owns N ops o,CP P owns N ops r with
  |some b,some q=>some (b::q)
  |_,_=>none
abbrev Trees:=List (Nat×Nat×OT×List Nat)
def VX:Trees->Nat->Option (Nat×OT×List Nat)
 |[],_=>none
 |(i,x)::l,j=>if i=j then some x else VX l j
def fY (P:Program)(owns:fX)(N:Nat)(ts:Trees):Code->Option eR
 | .skip=>some .skip
 | .ret=>some .ret
 | .exit id=>some (.exit id)
 | .seq x y=>match fY P owns N ts x,fY P owns N ts y with
  |some a,some b=>some (.seq a b)
  |_,_=>none
 | .cond t x y=>match dP t,fY P owns N ts x,fY P owns N ts y with
  |some t,some a,some b=>some (.cond t a b)
  |_,_,_=>none
 | .block id c=>(fY P owns N ts c).map (.block id)
 | .loop c=>(fY P owns N ts c).map .loop
 | .region id ops d=>match CP P owns N ops ops.toList with
  |some l=>match d with
   |false=>some (Me ((aH owns.lz id).getD []) (Mf ((aH owns.VH id).getD []) (.region l)))
   |true=>match VX ts id with
    |some (n,t,U)=>if P.follows .mixedOrders=true/\(Region.noSelect ops && qz .any ops n && nZ .any ops n t n (Array.replicate ops.size false))=true then some (Me ((aH owns.lz id).getD []) (Mf ((aH owns.VH id).getD []) (.rY l n t U))) else none
    |none=>none
  |none=>none
 |_=>none
section
variable {P:Program} {owns:fX} {N:Nat} {ops:Array Oper} {ts:Trees}
theorem apd (hE:∀p∈owns.eqs,qP P p.1 p.2){o:Oper}{b:BO}(h:Mg P owns N ops o=some b):IY P N ops o (b.ao P):=by
 unfold Mg at h;split at h
 ·cases h
 rename_i op hop;have hk:=apc hE hop;split at h
 case isFalse=>cases h
 rename_i hd
 have hlt:∀d,o.dst=some d->d<N:=fun d e=>by rw[e] at hd;simpa [adj] using hd
 split at h
 ·rename_i hg;simp only[aC] at h;subst h;exact⟨hk.1,rfl,hlt,by rw[hg];trivial,hk.2⟩
 ·rename_i j want hg;split at h
  ·rename_i t ht;simp only[aC] at h;subst h;exact⟨hk.1,rfl,hlt,by rw[hg];exact⟨rfl,ht⟩,hk.2⟩
  ·cases h
theorem VY (hE:∀p∈owns.eqs,qP P p.1 p.2):∀{os:List Oper} {l:List BO},CP P owns N ops os=some l->qO P N ops os (l.map (BO.ao P))
 |[],l,h=>by
  simp only[CP,aC] at h;subst h;exact .nil
 |o::os,l,h=>by
  unfold CP at h;split at h
  ·rename_i b q h1 h2;simp only[aC] at h;subst h;exact .cons (apd hE h1) (VY hE h2)
  ·cases h
theorem VZ {c:Code}:∀(l:List Nat) {b:eR},iG P N c (lift P b)->iG P N c (lift P (Me l b))
 |[],_,h=>h
 |s::r,_,h=> .lz s (VZ r h)
theorem Wa {c:Code}:∀(l:List (Nat×Nat×Nat×Nat×Nat)) {b:eR},iG P N c (lift P b)->iG P N c (lift P (Mf l b))
 |[],_,h=>h
 |(q,off,s,e,k)::r,_,h=> .oz q off s e k (Wa r h)
theorem adk (hE:∀p∈owns.eqs,qP P p.1 p.2):∀{c:Code} {b:eR},fY P owns N ts c=some b->iG P N c (lift P b):=by
 intro c
 induction c with
 |skip=>intro b h;simp only[fY,aC] at h;subst h;exact .skip
 |ret=>intro b h;simp only[fY,aC] at h;subst h;exact .ret
 |exit id=>intro b h;simp only[fY,aC] at h;subst h;exact .exit id
 |seq x y wN wP=>
  intro b h;unfold fY at h;split at h
  ·rename_i p q h1 h2;simp only[aC] at h;subst h;exact .seq (wN h1) (wP h2)
  ·cases h
 |cond t x y wN wP=>
  intro b h;unfold fY at h;split at h
  ·rename_i t' p q h0 h1 h2;simp only[aC] at h;subst h;exact .cond (dw h0) (wN h1) (wP h2)
  ·cases h
 |block id c ih=>
  intro b h;simp only[fY,bK] at h;obtain⟨p,hp,rfl⟩:=h;exact .block id (ih hp)
 |loop c ih=>
  intro b h;simp only[fY,bK] at h;obtain⟨p,hp,rfl⟩:=h;exact .loop (ih hp)
 |region id ops d=>
  intro b h;unfold fY at h;split at h
  ·rename_i l hl;split at h
   ·simp only[aC] at h;subst h;exact VZ _ (Wa _ (.region id (VY hE hl)))
   ·split at h
    ·rename_i n t U ht;split at h
     ·rename_i hc;simp only[aC] at h;subst h;exact VZ _ (Wa _ (iG.rY (l:=ops.toList) id n t U (VY hE hl) hc.1 hc.2))
     ·cases h
    ·cases h
  ·cases h
 |_=>intro b h;simp[fY] at h
def uV:List Nat->List (Nat×AV)
 |[]=>[]
 |i::l=>(i,.u)::uV l
def V0:List AW->Nat->List Nat->List (Nat×AV)
 |[],_,vs=>uV vs
 |a::r,k,vs=>(k,.w a)::V0 r (k+1) vs
def S0:List Nat->List (Nat×Slot)
 |[]=>[]
 |i::l=>(i,.dead 0)::S0 l
theorem Wb:∀{vs:List Nat} {i:Nat} {x:AV},aH (uV vs) i=some x->x=.u
 |[],i,x,h=>by simp[uV,aH] at h
 |v::vs,i,x,h=>by
  simp only[uV,aH] at h;split at h
  ·simp only[aC] at h;exact h.symm
  ·exact Wb h
theorem adl:∀{args:List AW} {k:Nat} {vs:List Nat} {i:Nat} {x:AV},aH (V0 args k vs) i=some x->x=.u\/∃j y,i=k+j/\args[j]? =some y/\x=.w y
 |[],k,vs,i,x,h=> .inl (Wb h)
 |a::r,k,vs,i,x,h=>by
  simp only[V0,aH] at h;split at h
  ·rename_i hk;simp only[aC] at h;exact .inr ⟨0,a,hk.symm,rfl,h.symm⟩
  ·rcases adl h with h1|⟨j,y,h1,h2,h3⟩
   ·exact .inl h1
   ·exact .inr ⟨j+1,y,ab,by simpa using h2,h3⟩
theorem adm:∀(ss:List Nat) (s:Nat),(aH (S0 ss) s).getD (.dead 0)=.dead 0
 |[],s=>rfl
 |v::vs,s=>by
  simp only[S0,aH];split
  ·rfl
  ·exact adm vs s
theorem ape (hE:∀p∈owns.eqs,qP P p.1 p.2){f:FuncId}{fn:Func}{c:Code}{b:eR}(hf:P.funcs[f]? =some fn)(hb:fn.body=some c)(ht:fY P owns fn.ntmps ts c=some b)(args:List AW)(Fo:args.length<=fn.ntmps)(vs ss:List Nat){Q:AV->Prop}
  (h:aL (lift P b) (fun e st=>(match e with | .exit _=>False|_=>True)/\∃xs,wQ P st fn.results.toList=some xs/\Q (dL xs)) ⟨V0 args 0 vs,[],S0 ss⟩):bu P f args Q:=
 aox hf hb (adk hE ht) args Fo _ _ (fun i x hx=>by
  rcases adl hx with h1|⟨j,y,h1,h2,h3⟩
  ·exact .inl h1
  ·rw[eM] at h1;subst h1;exact .inr ⟨y,h2,h3⟩) (adm ss) h
end
def St.dZ (st:St)(d:Option Nat)(x:AV):St:=match d with
 |some d=>st.put d x
 |none=>st
def pI (U:Option (List Nat))(s:Nat):Bool:=match U with
 |none=>true
 |some l=>l.contains s
def adn (U:Option (List Nat)):Option Nat->Bool
 |none=>true
 |some s=>pI U s
theorem Qs {U:Option (List Nat)}{s:Nat}(h:pI U s=true):wJ U s:=by
 cases U with
 |none=>trivial
 |some l=>simpa [pI,wJ] using h
def cS (U:Option (List Nat))(st:St):eD->Option (AV×St)
 | .Fs s e k=>if(aH st.S s).isSome=true then some (.w (.c (.own s ((st.slot s).gen+1))),st.bR s (.row e k ((st.slot s).gen+1) [])) else none
 | .box s x=>match st.arg x with
  |some (.w xw)=>if(aH st.S s).isSome=true then some (.pb s ((st.slot s).gen+1) 0,st.bR s (.box ((st.slot s).gen+1) xw.cells)) else none
  |_=>none
 | .alloc s za=>if(aH st.S s).isSome=true then some (.pb s ((st.slot s).gen+1) 0,st.bR s (.box ((st.slot s).gen+1) za)) else none
 | .tD k n za qs=>match pD st qs with
  |some pr=>match mF (cQ k n za) pr with
   |some cs=>if cs.all inl=true then some (.w (.c (.sl (rowsOf k n cs))),st) else none
   |none=>none
  |none=>none
 | .yD s e k n za qs=>match pD st qs with
  |some pr=>match mF (cQ k n za) pr with
   |some cs=>if cs.all inl=true/\(aH st.S s).isSome=true then some (.w (.c (.own s ((st.slot s).gen+1))),st.bR s (.row e k ((st.slot s).gen+1) (rowsOf k n cs))) else none
   |none=>none
  |none=>none
 | .app e k x y=>match st.arg x with
  |some (.w (.c (.own s g)))=>match aH st.S s with
   |some (.row e' k' g' es)=>match st.rows [s] (st.arg y) with
    |some ys=>if(e=e'/\k=k'/\g=g')/\(∀row∈ys,row.length=k)/\es.length+ys.length<=100000000/\pI U s=true then some (.w (.c (.own s (g+1))),st.bR s (.row e k (g+1) (es++ys))) else none
    |none=>none
   |_=>none
  |_=>none
 | .store n p x=>match st.arg x with
  |some (.w xw)=>match st.store xw.cells (st.arg p) with
   |some st'=>if xw.cells.length=n/\adn U (LR (st.arg p))=true then some (.u,st') else none
   |none=>none
  |_=>none
 | .CM k za x=>match st.sc x with
  |some (.int .i64 n)=>if 0<=n/\n<=1000000/\(cQ k n.toNat za).all inl=true then some (.w (.c (.sl (rowsOf k n.toNat (cQ k n.toNat za)))),st) else none
  |_=>none
 | .Fw s e k za x=>match st.sc x with
  |some (.int .i64 n)=>if 0<=n/\n<=1000000/\(cQ k n.toNat za).all inl=true/\(aH st.S s).isSome=true then some (.w (.c (.own s ((st.slot s).gen+1))),st.bR s (.row e k ((st.slot s).gen+1) (rowsOf k n.toNat (cQ k n.toNat za)))) else none
  |_=>none
 | .pB k x none hi=>match st.arg x with
  |some (.w (.c (.own s g)))=>match aH st.S s with
   |some (.row e k' g' es)=>match vh st es.length hi with
    |some h=>if g=g'/\h<=es.length then some (.w (.c (.own s (g+1))),st.bR s (.row e k' (g+1) (es.take h))) else none
    |none=>none
   |_=>none
  |_=>match bY (.pB k x none hi) with
   |some (_,ev)=>(ev st []).map fun x=>(x,st)
   |none=>none
 | .call _ _=>none
 | .mH _ _ _=>none
 | .pH _ _ _ _=>none
 |op=>match bY op with
  |some (_,ev)=>(ev st []).map fun x=>(x,st)
  |none=>none
section
variable {P:Program}
variable {K:St->Prop} {Q:fW->St->Prop} {U:Option (List Nat)} {X:AV->St->Prop} {b:BO} {c:eR} {d:Option Nat} {f:FuncId} {op:eD} {r:List BO} {st st':St} {ws:List AW} {x:AV} {ys:List aP}
theorem Wc(h:cS U st op=some (x,st'))(hX:X x st'):rZ P U op st X:=by
 have rd:∀(ev:St->List Nat->Option AV),((ev st []).map fun x=>(x,st))=some (x,st')->Jd ev st X:=fun ev h=>by
  rw[bK] at h;obtain⟨y,hy,he⟩:=h;cases he;exact⟨x,hy,hX⟩
 cases op with
 |Fs s e k=>
  simp only[cS] at h;split at h
  ·rename_i hs;simp only[aC,jb] at h;obtain⟨rfl,rfl⟩:=h;exact⟨hs,hX⟩
  ·cases h
 |box s y=>
  simp only[cS] at h;split at h
  ·rename_i xw hy;split at h
   ·rename_i hs;simp only[aC,jb] at h;obtain⟨rfl,rfl⟩:=h;exact⟨xw,hy,hs,hX⟩
   ·cases h
  ·cases h
 |alloc s za=>
  simp only[cS] at h;split at h
  ·rename_i hs;simp only[aC,jb] at h;obtain⟨rfl,rfl⟩:=h;exact⟨hs,hX⟩
  ·cases h
 |CM k za y=>
  simp only[cS] at h;split at h
  ·rename_i n hn;split at h
   ·rename_i hc;simp only[aC,jb] at h;obtain⟨rfl,rfl⟩:=h;exact⟨n.toNat,by rw[hn,Int.toNat_of_nonneg hc.1],ab,hc.2.2,hX⟩
   ·cases h
  ·cases h
 |Fw s e k za y=>
  simp only[cS] at h;split at h
  ·rename_i n hn;split at h
   ·rename_i hc;simp only[aC,jb] at h;obtain⟨rfl,rfl⟩:=h;exact⟨n.toNat,by rw[hn,Int.toNat_of_nonneg hc.1],ab,hc.2.2.1,hc.2.2.2,hX⟩
   ·cases h
  ·cases h
 |tD k n za qs=>
  simp only[cS] at h;split at h
  ·rename_i pr Wd;split at h
   ·rename_i cs hcs;split at h
    ·rename_i hi;simp only[aC,jb] at h;obtain⟨rfl,rfl⟩:=h;exact⟨pr,cs,Wd,hcs,hi,hX⟩
    ·cases h
   ·cases h
  ·cases h
 |yD s e k n za qs=>
  simp only[cS] at h;split at h
  ·rename_i pr Wd;split at h
   ·rename_i cs hcs;split at h
    ·rename_i hi;simp only[aC,jb] at h;obtain⟨rfl,rfl⟩:=h;exact⟨pr,cs,Wd,hcs,hi.1,hi.2,hX⟩
    ·cases h
   ·cases h
  ·cases h
 |app e k y z=>
  simp only[cS] at h;split at h
  ·rename_i s g hy;split at h
   ·rename_i e' k' g' es hs;split at h
    ·rename_i ys hys;split at h
     ·rename_i hc;obtain⟨⟨rfl,rfl,rfl⟩,h2,h3,h4⟩:=hc;simp only[aC,jb] at h;obtain⟨rfl,rfl⟩:=h;exact⟨s,g,es,ys,hy,hs,hys,h2,h3,Qs h4,hX⟩
     ·cases h
    ·cases h
   ·cases h
  ·cases h
 |store n p y=>
  simp only[cS] at h;split at h
  ·rename_i xw hy;split at h
   ·rename_i st2 hst;split at h
    ·rename_i hc;simp only[aC,jb] at h;obtain⟨rfl,rfl⟩:=h;exact⟨xw,_,hy,hc.1,hst,fun s hs=>by have:=hc.2;rw[hs] at this;exact Qs this,hX⟩
    ·cases h
   ·cases h
  ·cases h
 |pB k y lo hi=>
  cases lo with
  |none=>
   simp only[cS] at h;simp only[rZ];split at h
   ·rename_i s g hy
    try rw[hy]
    split at h
    ·rename_i e k' g' es hs;split at h
     ·rename_i hh iE;split at h
      ·rename_i hc;obtain⟨rfl,h2⟩:=hc;simp only[aC,jb] at h;obtain⟨rfl,rfl⟩:=h;exact⟨s,g,e,k',es,hh,hy,hs,iE,h2,hX⟩
      ·cases h
     ·cases h
    ·cases h
   ·rename_i hne;have h2:=rd ((bY (.pB k y none hi)).get rfl).2 h
    first
    |exact h2
    |(split
      ·rename_i s g hy;exact absurd hy (hne s g)
      ·exact h2)
  |some lo=>exact rd ((bY (.pB k y (some lo) hi)).get rfl).2 h
 |call f ys=>simp[cS] at h
 |mH f ys D=>simp[cS] at h
 |pH D n p y=>simp[cS] at h
 |mv y=>exact rd ((bY (.mv y)).get rfl).2 h
 |bin Mc y z=>exact rd ((bY (.bin Mc y z)).get rfl).2 h
 |un Md y=>exact rd ((bY (.un Md y)).get rfl).2 h
 |pick c y z=>exact rd ((bY (.pick c y z)).get rfl).2 h
 |len y=>exact rd ((bY (.len y)).get rfl).2 h
 |mm mx y z=>exact rd ((bY (.mm mx y z)).get rfl).2 h
 |ld1 p=>exact rd ((bY (.ld1 p)).get rfl).2 h
 |CA n p=>exact rd ((bY (.CA n p)).get rfl).2 h
 |tr p off=>exact rd ((bY (.tr p off)).get rfl).2 h
 |idx k y i=>exact rd ((bY (.idx k y i)).get rfl).2 h
 |CB n k p i=>exact rd ((bY (.CB n k p i)).get rfl).2 h
 |ext y i=>exact rd ((bY (.ext y i)).get rfl).2 h
 |CC y i=>exact rd ((bY (.CC y i)).get rfl).2 h
 |AA y=>exact rd ((bY (.AA y)).get rfl).2 h
 |Ft y lo hi=>exact rd ((bY (.Ft y lo hi)).get rfl).2 h
 |Fu kk y=>exact rd ((bY (.Fu kk y)).get rfl).2 h
 |AB y=>exact rd ((bY (.AB y)).get rfl).2 h
 |Fv y z t=>exact rd ((bY (.Fv y z t)).get rfl).2 h
 |CD za qs=>exact rd ((bY (.CD za qs)).get rfl).2 h
 |eqs neg n y z=>exact rd ((bY (.eqs neg n y z)).get rfl).2 h
def ma (U:Option (List Nat))(st:St)(b:BO):Option St:=match b.g with
 |none=>(cS U st b.op).map fun p=>p.2.dZ b.d p.1
 |some (t,want)=>match kM (st.arg (.t t)) want with
  |some true=>(cS U st b.op).map fun p=>p.2.dZ b.d p.1
  |some false=>some (st.dZ b.d (.cg []))
  |none=>none
theorem Qt(st:St)(b:BO)(x:AV):st.lv (b.ao P) x=st.dZ b.d x:=rfl
theorem ado(h:ma U st b=some st')(hK:K st'):qN U (b.ao P) K st:=by
 have go:((cS U st b.op).map fun p=>p.2.dZ b.d p.1)=some st'->(b.ao P).vm U st fun x st2=>K (st2.lv (b.ao P) x):=fun h=>by
  rw[bK] at h;obtain⟨⟨x,st2⟩,h1,h2⟩:=h;exact Wc h1 (by rw[Qt];dsimp only at h2;rw[h2];exact hK)
 obtain⟨d,g,op⟩:=b;unfold ma at h;dsimp only at h;unfold qN
 cases g with
 |none=>exact go h
 |some p=>
  obtain⟨t,want⟩:=p;dsimp only at h
  show(match kM (st.arg (.t t)) want with
   |some true=>_
   |some false=>_
   |none=>False)
  split at h
  ·exact go h
  ·simp only[aC] at h;rw[Qt,h];exact hK
  ·cases h
theorem bg(h:ma U st b=some st')(hr:bm U (r.map (BO.ao P)) K st'):bm U ((b::r).map (BO.ao P)) K st:=ado h hr
theorem bz(h:K st):bm U (([]:List BO).map (BO.ao P)) K st:=h
theorem apf{R:AV->Prop}(ha:nL st ys=some ws)(hC:bu P f ws R)(hr:∀x,R x->bm U (r.map (BO.ao P)) K (st.dZ d x)):
  bm U ((⟨d,none,.call f ys⟩::r:List BO).map (BO.ao P)) K st:=⟨ws,R,ha,hC,fun x hx=>hr x hx⟩
theorem CQ(ha:nL st ys=some ws)(hC:bu P f ws (fun y=>y=x))(hr:bm U (r.map (BO.ao P)) K (st.dZ d x)):
  bm U ((⟨d,none,.call f ys⟩::r:List BO).map (BO.ao P)) K st:=apf ha hC fun y hy=>by rw[hy];exact hr
theorem apg{l:List BO}{V L:List (Nat×AV)}{S:List (Nat×Slot)}(h:bm none (l.map (BO.ao P)) (Q .normal) ⟨V,[],S⟩):aL (lift P (.region l)) Q ⟨V,L,S⟩:=h
theorem Qu{t:aP}{x y:eR}{b:Bool}(hb:st.sc t=some (.bool b))(h:aL (lift P (if b then x else y)) Q st):aL (lift P (.cond t x y)) Q st:=by
 show(match st.sc t with
  |some (.bool true)=>_
  |some (.bool false)=>_
  |_=>False)
 rw[hb];cases b<;>exact h
theorem aph{id:Nat}(h:aL (lift P c) (lA id Q) st):aL (lift P (.block id c)) Q st:=h
theorem adq{Y:AV->St->Prop}(sb:∀x st,X x st->Y x st)(h:rZ P U op st X):rZ P U op st Y:=by
 have rd:∀(ev:St->List Nat->Option AV),Jd ev st X->Jd ev st Y:=fun ev ⟨x,h1,h2⟩=>⟨x,h1,sb _ _ h2⟩
 cases op with
 |Fs s e k=>exact⟨h.1,sb _ _ h.2⟩
 |box s y=>obtain⟨xw,h1,h2,h3⟩:=h;exact⟨xw,h1,h2,sb _ _ h3⟩
 |alloc s za=>exact⟨h.1,sb _ _ h.2⟩
 |tD k n za qs=>obtain⟨a,b,h1,h2,h3,h4⟩:=h;exact⟨a,b,h1,h2,h3,sb _ _ h4⟩
 |CM k za y=>obtain⟨n,h1,h2,h3,h4⟩:=h;exact⟨n,h1,h2,h3,sb _ _ h4⟩
 |Fw s e k za y=>obtain⟨n,h1,h2,h3,h4,h5⟩:=h;exact⟨n,h1,h2,h3,h4,sb _ _ h5⟩
 |yD s e k n za qs=>obtain⟨a,b,h1,h2,h3,h4,h5⟩:=h;exact⟨a,b,h1,h2,h3,h4,sb _ _ h5⟩
 |app e k y z=>obtain⟨s,g,es,ys,h1,h2,h3,h4,h5,h6,h7⟩:=h;exact⟨s,g,es,ys,h1,h2,h3,h4,h5,h6,sb _ _ h7⟩
 |store n p y=>obtain⟨xw,st',h1,h2,h3,h4,h5⟩:=h;exact⟨xw,st',h1,h2,h3,h4,sb _ _ h5⟩
 |pH D n p y=>obtain⟨xw,st',h1,h2,h3,h4,h5⟩:=h;exact⟨xw,st',h1,h2,h3,h4,sb _ _ h5⟩
 |call f ys=>obtain⟨ws,R,h1,h2,h3⟩:=h;exact⟨ws,R,h1,h2,fun r hr=>sb _ _ (h3 r hr)⟩
 |mH f ys D=>obtain⟨ws,R,h1,h2,h3,h4,h5,h6⟩:=h;exact⟨ws,R,h1,h2,h3,h4,h5,fun r S' hr=>⟨(h6 r S' hr).1,sb _ _ (h6 r S' hr).2⟩⟩
 |pB k y lo hi=>
  cases lo with
  |some lo=>exact rd ((bY (.pB k y (some lo) hi)).get rfl).2 h
  |none=>
   simp only[rZ] at h⊢;split at h
   ·obtain⟨s,g,e,k,es,hh,h1,h2,h3,h4,h5⟩:=h;exact⟨s,g,e,k,es,hh,h1,h2,h3,h4,sb _ _ h5⟩
   ·exact rd _ h
 |mv y=>exact rd ((bY (.mv y)).get rfl).2 h
 |bin Mc y z=>exact rd ((bY (.bin Mc y z)).get rfl).2 h
 |un Md y=>exact rd ((bY (.un Md y)).get rfl).2 h
 |pick c y z=>exact rd ((bY (.pick c y z)).get rfl).2 h
 |len y=>exact rd ((bY (.len y)).get rfl).2 h
 |mm mx y z=>exact rd ((bY (.mm mx y z)).get rfl).2 h
 |ld1 p=>exact rd ((bY (.ld1 p)).get rfl).2 h
 |CA n p=>exact rd ((bY (.CA n p)).get rfl).2 h
 |tr p off=>exact rd ((bY (.tr p off)).get rfl).2 h
 |idx k y i=>exact rd ((bY (.idx k y i)).get rfl).2 h
 |CB n k p i=>exact rd ((bY (.CB n k p i)).get rfl).2 h
 |ext y i=>exact rd ((bY (.ext y i)).get rfl).2 h
 |CC y i=>exact rd ((bY (.CC y i)).get rfl).2 h
 |AA y=>exact rd ((bY (.AA y)).get rfl).2 h
 |Ft y lo hi=>exact rd ((bY (.Ft y lo hi)).get rfl).2 h
 |Fu kk y=>exact rd ((bY (.Fu kk y)).get rfl).2 h
 |AB y=>exact rd ((bY (.AB y)).get rfl).2 h
 |Fv y z t=>exact rd ((bY (.Fv y z t)).get rfl).2 h
 |CD za qs=>exact rd ((bY (.CD za qs)).get rfl).2 h
 |eqs neg n y z=>exact rd ((bY (.eqs neg n y z)).get rfl).2 h
theorem Fx{K':St->Prop}(hK:∀st,K st->K' st)(h:qN U (b.ao P) K st):qN U (b.ao P) K' st:=by
 obtain⟨d,g,op⟩:=b
 cases g with
 |none=>exact adq (fun x st hx=>hK _ hx) h
 |some p=>
  obtain⟨t,want⟩:=p
  change (match kM (st.arg (.t t)) want with
   |some true=>rZ P U op st _
   |some false=>_
   |none=>False) at h
  change (match kM (st.arg (.t t)) want with
   |some true=>rZ P U op st _
   |some false=>_
   |none=>False)
  split at h
  ·exact adq (fun x st hx=>hK _ hx) h
  ·exact hK _ h
  ·exact h.elim
theorem We {U:Option (List Nat)}:∀{l:List BO} {st:St} {K K':St->Prop},(∀st,K st->K' st)->bm U (l.map (BO.ao P)) K st->bm U (l.map (BO.ao P)) K' st
 |[],st,K,K',hK,h=>hK _ h
 |b::l,st,K,K',hK,h=>Fx (fun st h=>We hK h) h
theorem wU {U:List Nat}{l tl:List BO}{K K':St->Prop}(hK:∀st,K st->K' st):∀{t:OT} {bp:Bool} {st:St},aU U (l.map (BO.ao P)) (tl.map (BO.ao P)) K t bp st->aU U (l.map (BO.ao P)) (tl.map (BO.ao P)) K' t bp st
 | .nil,bp,st,h=>We hK h
 | .take i t,bp,st,h=>by
  unfold aU at h⊢;split at h
  ·exact h.elim
  ·split at h
   ·exact h.elim
   ·refine⟨h.1,?_⟩;have h2:=h.2;split at h2
    ·obtain⟨x,h3,h4⟩:=h2;exact⟨x,h3,wU hK h4⟩
    ·split at h2
     ·obtain⟨x,h3,h4⟩:=h2;exact⟨x,h3,wU hK h4⟩
     ·exact wU hK h2
     ·exact h2.elim
 | .move i t,bp,st,h=>by
  unfold aU at h⊢;rw[eZ] at h⊢
  cases hl:l[i]? with
  |none=>rw[hl] at h;exact h.elim
  |some b=>rw[hl] at h;exact Fx (b:=b) (fun st h=>wU hK h) h
 | .fork i j ti tj,bp,st,h=>by
  unfold aU at h⊢;obtain⟨h1,h2⟩:=h;rw[eZ] at h1 h2;rw[eZ,eZ];refine⟨?_,?_⟩
  ·cases hl:l[i]? with
   |none=>rw[hl] at h1;exact h1.elim
   |some b=>rw[hl] at h1;exact Fx (b:=b) (fun st h=>wU hK h) h1
  ·cases hl:l[j]? with
   |none=>rw[hl] at h2;exact h2.elim
   |some b=>rw[hl] at h2;exact Fx (b:=b) (fun st h=>wU hK h) h2
 | .uX i j k ti tj tk,bp,st,h=>by
  unfold aU at h⊢;obtain⟨h1,h2,h3⟩:=h;rw[eZ] at h1 h2 h3;rw[eZ,eZ,eZ];refine⟨?_,?_,?_⟩
  ·cases hl:l[i]? with
   |none=>rw[hl] at h1;exact h1.elim
   |some b=>rw[hl] at h1;exact Fx (b:=b) (fun st h=>wU hK h) h1
  ·cases hl:l[j]? with
   |none=>rw[hl] at h2;exact h2.elim
   |some b=>rw[hl] at h2;exact Fx (b:=b) (fun st h=>wU hK h) h2
  ·cases hl:l[k]? with
   |none=>rw[hl] at h3;exact h3.elim
   |some b=>rw[hl] at h3;exact Fx (b:=b) (fun st h=>wU hK h) h3
theorem vt:∀{c:eR} {Q Q':fW->St->Prop} {st:St},(∀e st,Q e st->Q' e st)->aL (lift P c) Q st->aL (lift P c) Q' st
 | .skip,Q,Q',st,hQ,h=>hQ _ _ h
 | .ret,Q,Q',st,hQ,h=>hQ _ _ h
 | .exit id,Q,Q',st,hQ,h=>hQ _ _ h
 | .seq x y,Q,Q',st,hQ,h=>by
  refine vt (c:=x) (fun e st' he=> ?_) h
  cases e with
  |normal=>exact vt (c:=y) hQ he
  |exit id=>exact hQ _ _ he
  |ret=>exact hQ _ _ he
 | .cond t x y,Q,Q',st,hQ,h=>by
  unfold lift aL at h⊢;split at h
  ·rename_i hb;exact vt (c:=x) hQ h
  ·rename_i hb;exact vt (c:=y) hQ h
  ·exact h.elim
 | .block id c,Q,Q',st,hQ,h=>by
  refine vt (c:=c) (fun e st' he=> ?_) h
  cases e with
  |normal=>exact hQ _ _ he
  |exit oA=>
   unfold lA at he⊢;dsimp only at he⊢;split at he
   ·rename_i hi;rw[aj hi];exact hQ _ _ he
   ·rename_i hi;rw[af hi];exact hQ _ _ he
  |ret=>exact hQ _ _ he
 | .loop c,Q,Q',st,hQ,h=>by
  obtain⟨n,hn⟩:=h;refine⟨n,?_⟩
  have key:∀n st,Fm (aL (lift P c)) Q n st->Fm (aL (lift P c)) Q' n st:=by
   intro n
   induction n with
   |zero=>intro st h;exact h
   |succ n ih=>
    intro st h;refine vt (c:=c) (fun e st' he=> ?_) h
    cases e with
    |normal=>exact ih _ he
    |exit id=>exact hQ _ _ he
    |ret=>exact hQ _ _ he
  exact key n st hn
 | .lz s c,Q,Q',st,hQ,h=>vt (c:=c) (st:=st.freeze s) hQ h
 | .oz b off s e k c,Q,Q',st,hQ,h=>vt (c:=c) (st:=st.ly b off s e k) hQ h
 | .region l,Q,Q',st,hQ,h=>We (fun st h=>hQ _ _ h) h
 | .rY l n t U,Q,Q',st,hQ,h=>by
  have hd:(l.map (BO.ao P)).drop n=(l.drop n).map (BO.ao P):=by rw[List.map_drop]
  unfold lift aL at h⊢;rw[hd] at h⊢;exact wU (fun st h=>hQ _ _ h) h
theorem api(I:Nat->St->Prop){n:Nat}(h0:I n st)(hr:∀n st,I n st->aL (lift P c) (lZ (fun st'=>∃m,m<n/\I m st') Q) st):aL (lift P (.loop c)) Q st:=by
 have key:∀k n,n<=k->∀st,I n st->Fm (aL (lift P c)) Q (k+1) st:=by
  intro k
  induction k with
  |zero=>
   intro n hn st hI;refine vt (fun e st' he=> ?_) (hr n st hI)
   cases e with
   |normal=>obtain⟨m,hm,_⟩:=he;omega
   |exit id=>exact he
   |ret=>exact he
  |succ k ih=>
   intro n hn st hI;refine vt (fun e st' he=> ?_) (hr n st hI)
   cases e with
   |normal=>obtain⟨m,hm,hI'⟩:=he;exact ih m ab st' hI'
   |exit id=>exact he
   |ret=>exact he
 exact⟨n+1,key n n aA st h0⟩
end
inductive RV where
 |t (i:Nat)
 |cell (p n:Nat)
 |cell1 (p:Nat)
def Fy (P:Program):ResultVar->Option RV
 | .tmp t=>some (.t t)
 | .cell p ty=>match(P.info? ty).map (·.size),P.underlying ty with
  |some n,some d=>if d.isRow then some (.cell p n) else some (.cell1 p)
  |_,_=>none
def tF (P:Program):List ResultVar->Option (List RV)
 |[]=>some []
 |r::l=>match Fy P r,tF P l with
  |some x,some q=>some (x::q)
  |_,_=>none
def AE (st:St):RV->Option AW
 | .t i=>match st.get i with
  |some (.w x)=>st.pG x
  |_=>none
 | .cell p n=>match st.cells [] n (st.get p) with
  |some cs=>st.pG (.agg cs)
  |none=>none
 | .cell1 p=>match st.cells [] 1 (st.get p) with
  |some [c]=>st.pG (.c c)
  |_=>none
def yE (st:St):List RV->Option (List AW)
 |[]=>some []
 |r::l=>match AE st r,yE st l with
  |some x,some q=>some (x::q)
  |_,_=>none
section
variable {P:Program} {owns:fX} {ts:Trees}
theorem apj {st:St}{r:ResultVar}{q:RV}{x:AW}(h:Fy P r=some q)(hx:AE st q=some x):CL P st r=some x:=by
 cases r with
 |tmp t=>simp only[Fy,aC] at h;subst h;exact hx
 |cell p ty=>
  simp only[Fy] at h;split at h
  ·rename_i n d hn hd;simp only[CL,hn,hd];split at h
   ·rename_i hr;simp only[aC] at h;subst h;rw[aj hr];simp only[AE] at hx;split at hx
    ·rename_i cs hc;rw[hc];exact hx
    ·cases hx
   ·rename_i hr;simp only[aC] at h;subst h;rw[af hr];simp only[AE] at hx;split at hx
    ·rename_i c hc;rw[hc];exact hx
    ·cases hx
  ·cases h
theorem Wf {st:St}:∀{rs:List ResultVar} {qs:List RV} {xs:List AW},tF P rs=some qs->yE st qs=some xs->wQ P st rs=some xs
 |[],qs,xs,h,hx=>by simp only[tF,aC] at h;subst h;exact hx
 |r::rs,qs,xs,h,hx=>by
  unfold tF at h;split at h
  ·rename_i q l h1 h2;simp only[aC] at h;subst h;unfold yE at hx;split at hx
   ·rename_i x l' g1 g2;simp only[aC] at hx;subst hx;unfold wQ;rw[apj h1 g1,Wf h2 g2]
   ·cases hx
  ·cases h
def Qv (rv:List RV)(Q:AV->Prop):fW->St->Prop
 | .exit _,_=>False
 |_,st=>∃xs,yE st rv=some xs/\Q (dL xs)
theorem adr (hE:∀p∈owns.eqs,qP P p.1 p.2){f:FuncId}{fn:Func}{c:Code}{b:eR}(hf:P.funcs[f]? =some fn)(hb:fn.body=some c)(ht:fY P owns fn.ntmps ts c=some b)(rv:List RV)(oB:tF P fn.results.toList=some rv)(args:List AW)(Fo:Nat.ble args.length fn.ntmps=true)(vs ss:List Nat){Q:AV->Prop}
  (h:aL (lift P b) (Qv rv Q) ⟨V0 args 0 vs,[],S0 ss⟩):bu P f args Q:=
 ape hE hf hb ht args (zX Fo) vs ss (vt (fun e st he=>by
  cases e with
  |normal=>obtain⟨xs,h1,h2⟩:=he;exact⟨trivial,xs,Wf oB h1,h2⟩
  |exit id=>exact he.elim
  |ret=>obtain⟨xs,h1,h2⟩:=he;exact⟨trivial,xs,Wf oB h1,h2⟩) h)
variable {Q:fW->St->Prop} {V L:List (Nat×AV)} {S:List (Nat×Slot)} {st:St} {x y z:eR}
variable {D U:List Nat} {K:St->Prop} {b e i id j k:Nat} {d:Option Nat} {f:FuncId} {l r:List BO} {p q:aP} {st st':St} {t ti tj:OT} {tl:List AO} {ws:List AW} {ys:List aP}
theorem CS{U:Option (List Nat)}{s g:Nat}{u v:aP}{es ys:List (List AC)}(hx:st.arg u=some (.w (.c (.own s g))))(hs:aH st.S s=some (.row e k g es))(hy:st.rows [s] (st.arg v)=some ys)(hk:∀row∈ys,row.length=k)(hl:es.length+ys.length<=100000000)(hU:pI U s=true)
  (hst:(st.bR s (.row e k (g+1) (es++ys))).dZ d (.w (.c (.own s (g+1))))=st') (h:bm U (r.map (BO.ao P)) K st'):bm U ((⟨d,none,.app e k u v⟩::r:List BO).map (BO.ao P)) K st:=by
 subst hst;refine bg ?_ h
 have hw:cS U st (.app e k u v)=some (.w (.c (.own s (g+1))),st.bR s (.row e k (g+1) (es++ys))):=by
  unfold cS;dsimp only;rw[hx];dsimp only;rw[hs];dsimp only;rw[hy];dsimp only;rw[aj ⟨⟨rfl,rfl,rfl⟩,hk,hl,hU⟩]
 unfold ma;dsimp only;rw[hw];rfl
theorem ads{U:Option (List Nat)}{x:AV}{t:Nat}{want:Bool}(hg:st.sc (.t t)=some (.bool want))(ha:nL st ys=some ws)(hC:bu P f ws (fun y=>y=x))(hr:bm U (r.map (BO.ao P)) K (st.dZ d x)):
  bm U ((⟨d,some (t,want),.call f ys⟩::r:List BO).map (BO.ao P)) K st:=by
 show(match kM (st.arg (.t t)) want with
  |some true=>_
  |some false=>_
  |none=>False)
 have hw:kM (st.arg (.t t)) want=some true:=by
  unfold St.sc Fb at hg;split at hg
  ·rename_i u hu;rw[hu];cases hg;cases want<;>rfl
  ·cases hg
 rw[hw];exact⟨ws,_,ha,hC,fun y hy=>by rw[hy];exact hr⟩
theorem adt{U:Option (List Nat)}{n:Nat}{x:aP}(hx:ma U (ox D st) ⟨d,none,.store n p x⟩=some st')(hK:K st'):qN U ((⟨d,none,.pH D n p x⟩:BO).ao P) K st:=by
 unfold ma at hx;dsimp only at hx;rw[bK] at hx;obtain⟨⟨y,st2⟩,h1,h2⟩:=hx;exact Wc (P:=P) (X:=fun x st2=>K (st2.lv ((⟨d,none,.pH D n p _⟩:BO).ao P) x)) h1 (by rw[Qt];dsimp only at h2⊢;rw[h2];exact hK)
theorem adu{U:Option (List Nat)}{n:Nat}(hx:ma U (ox D st) ⟨d,none,.store n p q⟩=some st')(h:bm U (r.map (BO.ao P)) K st'):bm U ((⟨d,none,.pH D n p q⟩::r:List BO).map (BO.ao P)) K st:=adt hx h
theorem k_reg(h:bm none (l.map (BO.ao P)) (fun st=>aL (lift P y) Q st) ⟨V,[],S⟩):aL (lift P (.seq (.region l) y)) Q ⟨V,L,S⟩:=h
theorem yF(h:bm none (l.map (BO.ao P)) (fun st=>Q .normal st) ⟨V,[],S⟩):aL (lift P (.region l)) Q ⟨V,L,S⟩:=h
theorem gD(h:aL (lift P (.seq x (.seq y z))) Q st):aL (lift P (.seq (.seq x y) z)) Q st:=vt (c:=x) (fun e st' he=>by
 cases e with
 |normal=>exact he
 |exit id=>exact he
 |ret=>exact he) h
theorem kO{t:aP}(b:Bool)(hb:st.sc t=some (.bool b))(h:aL (lift P (.seq (bif b then x else y) z)) Q st):aL (lift P (.seq (.cond t x y) z)) Q st:=Qu (x:=x) (y:=y) hb (by cases b<;>exact h)
theorem CT{t:aP}(b:Bool)(hb:st.sc t=some (.bool b))(h:aL (lift P (bif b then x else y)) Q st):aL (lift P (.cond t x y)) Q st:=Qu (x:=x) (y:=y) hb (by cases b<;>exact h)
theorem sd(h:aL (lift P z) Q st):aL (lift P (.seq .skip z)) Q st:=h
theorem AG(h:Q (.exit id) st):aL (lift P (.seq (.exit id) z)) Q st:=h
theorem Qw(h:Q (.exit id) st):aL (lift P (.exit id)) Q st:=h
theorem yG(h:Q .ret st):aL (lift P (.seq .ret z)) Q st:=h
theorem nN(h:Q .ret st):aL (lift P .ret) Q st:=h
theorem vw(h:aL (lift P x) (lA id (lZ (fun st=>aL (lift P z) Q st) Q)) st):aL (lift P (.seq (.block id x) z)) Q st:=h
theorem Qx(h:aL (lift P x) (lA id Q) st):aL (lift P (.block id x)) Q st:=h
theorem dB{c:eR}(I:Nat->List (Nat×AV)->List (Nat×Slot)->Prop){n:Nat}(h0:I n V S)(hr:∀n V L S,I n V S->aL (lift P c) (lZ (fun st'=>∃m,m<n/\I m st'.V st'.S) Q) ⟨V,L,S⟩):aL (lift P (.loop c)) Q ⟨V,L,S⟩:=
 api (fun n st=>I n st.V st.S) h0 fun n st h=>hr n st.V st.L st.S h
theorem Wh{s:Nat}(hs:st.freeze s=st')(h:aL (lift P (.seq x z)) Q st'):aL (lift P (.seq (.lz s x) z)) Q st:=by subst hs;exact h
theorem adw{off s:Nat}(hs:st.ly b off s e k=st')(h:aL (lift P (.seq x z)) Q st'):aL (lift P (.seq (.oz b off s e k x) z)) Q st:=by subst hs;exact h
theorem Wi{off s:Nat}(hs:st.ly b off s e k=st')(h:aL (lift P x) Q st'):aL (lift P (.oz b off s e k x)) Q st:=by subst hs;exact h
theorem Wj{s:Nat}(hs:st.freeze s=st')(h:aL (lift P x) Q st'):aL (lift P (.lz s x)) Q st:=by subst hs;exact h
theorem wV{n:Nat}(h:aU U (l.map (BO.ao P)) ((l.drop n).map (BO.ao P)) (fun st=>aL (lift P y) Q st) t false ⟨V,[],S⟩):aL (lift P (.seq (.rY l n t U) y)) Q ⟨V,L,S⟩:=by
 rw[List.map_drop] at h;exact h
theorem Jf{n:Nat}(h:aU U (l.map (BO.ao P)) ((l.drop n).map (BO.ao P)) (fun st=>Q .normal st) t false ⟨V,[],S⟩):aL (lift P (.rY l n t U)) Q ⟨V,L,S⟩:=by
 rw[List.map_drop] at h;exact h
def CU (U:List Nat)(st:St)(b:BO)(bp:Bool):Option St:=match bY b.op with
 |none=>none
 |some (mem,ev)=>if mem=true/\bp=true then none else match b.g with
  |none=>(ev st U).map fun x=>st.dZ b.d x
  |some (t,want)=>match kM (st.arg (.t t)) want with
   |some true=>(ev st U).map fun x=>st.dZ b.d x
   |some false=>some (st.dZ b.d (.cg []))
   |none=>none
theorem pJ{bp:Bool}{b:BO}(hi:l[i]? =some b)(hx:CU U st b bp=some st')(h:aU U (l.map (BO.ao P)) tl K t bp st'):aU U (l.map (BO.ao P)) tl K (.take i t) bp st:=by
 obtain⟨d,g,op⟩:=b;unfold CU at hx;dsimp only at hx;split at hx
 ·cases hx
 rename_i mem ev aF;split at hx
 ·cases hx
 rename_i hm;unfold aU;rw[eZ,hi]
 show(match bY op with
  |none=>False
  |some (mem,ev)=>_)
 rw[aF];refine⟨fun h1=>by cases bp<;>simp_all,?_⟩
 cases g with
 |none=>
  dsimp only at hx;rw[bK] at hx;obtain⟨x,hx,rfl⟩:=hx;exact⟨x,hx,h⟩
 |some p=>
  obtain⟨tt,want⟩:=p;dsimp only at hx
  change (match kM (st.arg (.t tt)) want with
   |some true=>_
   |some false=>_
   |none=>False)
  split at hx
  ·rw[bK] at hx;obtain⟨x,hx,rfl⟩:=hx;exact⟨x,hx,h⟩
  ·simp only[aC] at hx;subst hx;exact h
  ·cases hx
theorem wW{l:List AO}{bp:Bool}(h1:aU U l tl K (.move i ti) bp st)(h2:aU U l tl K (.move j tj) bp st):aU U l tl K (.fork i j ti tj) bp st:=⟨h1,h2⟩
theorem CV{l:List AO}{tk:OT}{bp:Bool}(h1:aU U l tl K (.move i ti) bp st)(h2:aU U l tl K (.move j tj) bp st)(h3:aU U l tl K (.move k tk) bp st):aU U l tl K (.uX i j k ti tj tk) bp st:=⟨h1,h2,h3⟩
theorem tG{l:List AO}{bp:Bool}(h:bm none tl K st):aU U l tl K .nil bp st:=h
theorem Jg{bp:Bool}{b:BO}(hi:l[i]? =some b)(hx:ma (some U) st b=some st')(h:aU U (l.map (BO.ao P)) tl K t true st'):aU U (l.map (BO.ao P)) tl K (.move i t) bp st:=by
 unfold aU;rw[eZ,hi];exact ado hx h
theorem adx{bp:Bool}{n:Nat}(hi:l[i]? =some ⟨d,none,.pH D n p q⟩)(hx:ma (some U) (ox D st) ⟨d,none,.store n p q⟩=some st')(h:aU U (l.map (BO.ao P)) tl K t true st'):aU U (l.map (BO.ao P)) tl K (.move i t) bp st:=by
 unfold aU;rw[eZ,hi];exact adt hx h
theorem Fz{bp:Bool}{x:AV}(hi:l[i]? =some ⟨d,none,.call f ys⟩)(ha:nL st ys=some ws)(hC:bu P f ws (fun y=>y=x))(h:aU U (l.map (BO.ao P)) tl K t true (st.dZ d x)):
  aU U (l.map (BO.ao P)) tl K (.move i t) bp st:=by
 unfold aU;rw[eZ,hi];exact⟨ws,_,ha,hC,fun y hy=>by rw[hy];exact h⟩
theorem jJ{rv:List RV}{Q:AV->Prop}{xs:List AW}(h:yE st rv=some xs)(hQ:Q (dL xs)):Qv rv Q .ret st:=⟨xs,h,hQ⟩
end
variable {a b:Int} {k:Nat}
@[simp] theorem aCD(x:Value):inl (.v x)=true:=rfl
@[simp] theorem aCE(es:List (List AC)):inl (.sl es)=true:=rfl
@[simp] theorem aCF(s g:Nat):inl (.own s g)=false:=rfl
@[simp] theorem aCG(st:St)(x:Value):st.fz (.v x)=some (.v x):=rfl
@[simp] theorem aCH(st:St)(es:List (List AC)):st.fz (.sl es)=some (.sl es):=rfl
@[simp] theorem aCI(st:St)(s g:Nat):st.fz (.own s g)=match st.slot s with
  | .row _ k g' es=>if g=g'/\0<k then some (.sl es) else none
  |_=>none:=rfl
@[simp] theorem aCJ(k:IntKind)(a b:Int):bt .eql (.int k a) (.int k b)=some (.bool (decide (a=b))):=by simp[bt]
@[simp] theorem aCK(k:IntKind)(a b:Int):bt .neq (.int k a) (.int k b)=some (.bool (decide (a≠b))):=by simp[bt]
@[simp] theorem aCL(k:IntKind)(a b:Int):bt .lss (.int k a) (.int k b)=some (.bool (decide (a<b))):=by simp[bt]
@[simp] theorem aCM(k:IntKind)(a b:Int):bt .leq (.int k a) (.int k b)=some (.bool (decide (a<=b))):=by simp[bt]
@[simp] theorem aCN(k:IntKind)(a b:Int):bt .gtr (.int k a) (.int k b)=some (.bool (decide (b<a))):=by simp[bt]
@[simp] theorem aCO(k:IntKind)(a b:Int):bt .geq (.int k a) (.int k b)=some (.bool (decide (b<=a))):=by simp[bt]
theorem wrap64{n:Int}(h1: -9223372036854775808<=n)(h2:n<=9223372036854775807):IntKind.i64.wrap n=n:=by
 simp only[IntKind.wrap,IntKind.signed,IntKind.bits];simp;omega
theorem oC(h1: -9223372036854775808<=a+b)(h2:a+b<=9223372036854775807):bt .add (.int .i64 a) (.int .i64 b)=some (.int .i64 (a+b)):=by simp[bt,wrap64 h1 h2]
theorem AH(h1: -9223372036854775808<=a-b)(h2:a-b<=9223372036854775807):bt .sub (.int .i64 a) (.int .i64 b)=some (.int .i64 (a-b)):=by simp[bt,wrap64 h1 h2]
theorem apk(h1: -9223372036854775808<=a*b)(h2:a*b<=9223372036854775807):bt .mul (.int .i64 a) (.int .i64 b)=some (.int .i64 (a*b)):=by simp[bt,wrap64 h1 h2]
theorem ady(h0:b≠0)(h1: -9223372036854775808<=a.tdiv b)(h2:a.tdiv b<=9223372036854775807):bt .quo (.int .i64 a) (.int .i64 b)=some (.int .i64 (a.tdiv b)):=by simp[bt,wrap64 h1 h2,h0]
theorem Mh(h0:b≠0):bt .rem (.int .i64 a) (.int .i64 b)=some (.int .i64 (a.tmod b)):=by simp[bt,h0]
theorem bT(h:k<=1000000000):bt .add (.int .i64 (k:Int)) (.int .i64 1)=some (.int .i64 ((k+1:Nat):Int)):=by
 rw[oC ab ab];rfl
@[simp ↓] theorem aCP{α:Type}{f:α->List AC}{l:List α}:(∀row∈l.map f,row.length=k)↔∀x∈l,(f x).length=k:=List.forall_mem_map
@[simp] theorem aCQ(g:Nat):(Slot.dead g).gen=g:=rfl
@[simp] theorem aCR(g:Nat)(cs:List AC):(Slot.box g cs).gen=g:=rfl
@[simp] theorem aCS(e k g:Nat)(es:List (List AC)):(Slot.row e k g es).gen=g:=rfl
attribute [simp] Ql Fp Qk
attribute [simp] ox St.freeze mapA wM Qi lx ow ma kM cS bY CU St.get St.arg St.sc Fb aH pw St.put St.dZ St.slot St.bR St.cells St.rows AW.cells AV.shift nL AW.inl pD mF yE AE St.pG St.jo dL lZ lA Qv pI adn LR St.store CH vh LQ CF PX
def St.oD (D:List Nat)(st:St):AC->Option AC
 | .own s g=>if s∈D then some (.own s g) else st.fz (.own s g)
 | .cB s g=>if s∈D then some (.cB s g) else none
 | .part s g i=>if s∈D then some (.part s g i) else none
 | .cls f bP=>if kL D (.cls f bP)=true then some (.cls f bP) else none
 | .v x=>some (.v x)
 | .sl es=>some (.sl es)
 | .fc f bP=>some (.fc f bP)
def St.jK (D:List Nat)(st:St):List AC->Option (List AC)
 |[]=>some []
 |x::l=>match st.oD D x,st.jK D l with
  |some y,some r=>some (y::r)
  |_,_=>none
def St.tH (D:List Nat)(st:St):AW->Option AW
 | .c x=>(st.oD D x).map .c
 | .agg cs=>(st.jK D cs).map .agg
def yH (D:List Nat)(st:St):RV->Option AW
 | .t i=>match st.get i with
  |some (.w x)=>st.tH D x
  |_=>none
 | .cell p n=>match st.cells [] n (st.get p) with
  |some cs=>st.tH D (.agg cs)
  |none=>none
 | .cell1 p=>match st.cells [] 1 (st.get p) with
  |some [c]=>st.tH D (.c c)
  |_=>none
def tI (D:List Nat)(st:St):List RV->Option (List AW)
 |[]=>some []
 |r::l=>match yH D st r,tI D st l with
  |some x,some q=>some (x::q)
  |_,_=>none
def ew (D:List Nat)(S:Nat->Slot)(s:Nat):Slot:=if s∈D then S s else .dead 0
section
variable {P:Program} {owns:fX} {ts:Trees} {N:Nat} {F M:Nat->Prop} {w0:jX} {w:World} {st:St} {G:Nat->Gh} {H:Nat->Value} {a:Act}
variable {D:List Nat} {K:St->Prop} {R:AV->(Nat->Slot)->Prop} {d:Option Nat} {f:FuncId} {ws:List AV} {x:AW} {ys:List aP}
theorem Mi{S:Nat->Slot}(s b:Nat):bl (ew D S) G H s b↔s∈D/\bl S G H s b:=by
 unfold bl ew;by_cases h:s∈D<;>simp[h]
theorem Wk{S:Nat->Slot}{b:Nat}(h:aZ M (ew D S) G H b):aZ M S G H b:=by
 rcases h with hm|⟨s,hl⟩
 ·exact .inl hm
 ·exact .inr ⟨s,((Mi s b).1 hl).2⟩
theorem Rel.oD(h:Rel N F M w0 st G H a w){x y:AC}{u:Value}(hx:CR w (aZ M st.slot G H) st.slot G H x u)(hf:st.oD D x=some y):CR w (aZ M (ew D st.slot) G H) (ew D st.slot) G H y u/\kL D y=true:=by
 have pF:∀{z:AC} {v:Value},IR w (aZ M st.slot G H) z v->IR w (aZ M (ew D st.slot) G H) z v:=fun hz=>hz.mono aA (fun b _ hb=>Wk hb) (fun _ _ _=>rfl)
 cases x with
 |v x=>simp only[St.oD,aC] at hf;subst hf;exact⟨pF hx,rfl⟩
 |sl es=>simp only[St.oD,aC] at hf;subst hf;exact⟨pF hx,rfl⟩
 |fc f bP=>simp only[St.oD,aC] at hf;subst hf;exact⟨pF hx,rfl⟩
 |cB s g=>
  simp only[St.oD] at hf;split at hf
  case isFalse=>cases hf
  rename_i hs;simp only[aC] at hf;subst hf;obtain⟨h1,h2,h3⟩:=hx
  have e:ew D st.slot s=st.slot s:=by unfold ew;rw[aj hs]
  exact⟨⟨h1,by rw[e];exact h2,fun K he=>h3 K (by rw[<-e];exact he)⟩,by simpa [kL] using hs⟩
 |part s g i=>
  simp only[St.oD] at hf;split at hf
  case isFalse=>cases hf
  rename_i hs;simp only[aC] at hf;subst hf;obtain⟨h1,h2,h3⟩:=hx
  have e:ew D st.slot s=st.slot s:=by unfold ew;rw[aj hs]
  exact⟨⟨h1,by rw[e];exact h2,fun K he=>h3 K (by rw[<-e];exact he)⟩,by simpa [kL] using hs⟩
 |cls f bP=>
  simp only[St.oD] at hf;split at hf
  case isFalse=>cases hf
  rename_i hs;simp only[aC] at hf;subst hf;obtain⟨ps,h1,h2,h3⟩:=hx;refine⟨⟨ps,h1,h2,fun i q p e1 e2=> ?_⟩,hs⟩
  have hq:q.1∈D:=by
   have h4:bP.all (fun q=>D.contains q.1)=true:=hs;have:=fg.1 h4 q (dD e1);simpa using this
  have e:ew D st.slot q.1=st.slot q.1:=by unfold ew;rw[aj hq]
  obtain⟨h4,h5⟩:=h3 i q p e1 e2;exact⟨by rw[e];exact h4,fun cs he=>h5 cs (by rw[<-e];exact he)⟩
 |own s g=>
  simp only[St.oD] at hf;split at hf
  ·rename_i hs;simp only[aC] at hf;subst hf;obtain⟨h1,h2,h3⟩:=hx
   have e:ew D st.slot s=st.slot s:=by unfold ew;rw[aj hs]
   exact⟨⟨h1,by rw[e];exact h2,fun e' k es he=>h3 e' k es (by rw[<-e];exact he)⟩,by simpa [kL] using hs⟩
  ·rename_i hs;simp only[St.fz] at hf;split at hf
   case h_2=>cases hf
   rename_i e k g' es bN;split at hf
   case isFalse=>cases hf
   rename_i hg;obtain⟨rfl,bj⟩:=hg;simp only[aC] at hf;subst hf;refine⟨?_,rfl⟩;obtain⟨_,_,hH⟩:=hx;have hu:=hH e k es bN;subst hu;obtain⟨hn,xs,how,kK⟩:=h.rw s e k g es bN;have hl:=how.1
   rcases how.2 with⟨e1,e2⟩|⟨gg,cap,cur,e1,_,PY,np,Az,_,_⟩
   ·have h0:es=[]:=ya e2;subst h0;rw[e1];exact IR.sl 0 [] none 0 (fun _ _=>undef) aA ai (by intro i row h;simp at h) (by intro i row j x h;simp at h) (by intro i row j h;simp at h)
   ·rw[e1];have hcell:=how.cells (g:=gg) (by rw[e1];rfl)
    have aV:(H s).ownBlock=some gg:=by rw[e1];rfl
    have VB:¬aZ M (ew D st.slot) G H gg:=fun hh=>by
     rcases hh with hm|⟨s',jl⟩
     ·exact(hn gg aV).2 hm
     ·obtain⟨d1,l1⟩:=(Mi s' gg).1 jl;have:=h.dj s' s gg l1 (.inr (.inl ⟨e,k,g,es,bN,aV⟩));subst this;exact hs d1
    exact LV rfl (kK.map fun x u hx=>pF hx) hl VB np (by simp only[maxLen] at Az;omega) (fun j u hj=>by
     have:=hcell j u hj
     rwa[Addr.add_mid,eM] at this)
theorem Rel.jK(h:Rel N F M w0 st G H a w):∀{cs r:List AC} {us:List Value},cp w (aZ M st.slot G H) st.slot G H cs us->st.jK D cs=some r->cp w (aZ M (ew D st.slot) G H) (ew D st.slot) G H r us/\r.all (kL D)=true
 |[],r,us,hc,hr=>by
  simp only[St.jK,aC] at hr;subst hr;exact⟨⟨hc.1,fun j x u e=>by simp at e⟩,rfl⟩
 |x::cs,r,us,hc,hr=>by
  unfold St.jK at hr;split at hr
  case h_2=>cases hr
  rename_i y q h1 h2;simp only[aC] at hr;subst hr
  cases us with
  |nil=>have:=hc.1;simp at this
  |cons u us=>
   have hc':cp w (aZ M st.slot G H) st.slot G H cs us:=⟨by have:=hc.1;simpa using this,fun j x u e1 e2=>hc.2 (j+1) x u (by simpa using e1) (by simpa using e2)⟩
   obtain⟨g2,g1⟩:=Rel.jK h hc' h2;obtain⟨g3,g4⟩:=h.oD (hc.2 0 x u rfl rfl) h1;refine⟨⟨by have:=g2.1;simp[this],fun j z v e1 e2=> ?_⟩,by simp[g4,g1]⟩
   cases j with
   |zero=>
    simp at e1 e2;subst e1;subst e2;exact g3
   |succ j=>exact g2.2 j z v (by simpa using e1) (by simpa using e2)
theorem Rel.tH(h:Rel N F M w0 st G H a w){y:AW}{v:Value}(hx:WR w (aZ M st.slot G H) st.slot G H x v)(hf:st.tH D x=some y):WR w (aZ M (ew D st.slot) G H) (ew D st.slot) G H y v/\yA D y=true:=by
 cases x with
 |c x=>
  simp only[St.tH,bK] at hf;obtain⟨z,hz,rfl⟩:=hf;obtain⟨h1,h2⟩:=h.oD hx hz;exact⟨h1,by simp[yA,AW.cells,h2]⟩
 |agg cs=>
  simp only[St.tH,bK] at hf;obtain⟨z,hz,rfl⟩:=hf;obtain⟨arr,e,hc⟩:=hx;obtain⟨g1,g2⟩:=h.jK hc hz;exact⟨⟨arr,e,g1⟩,by simpa [yA,AW.cells] using g2⟩
theorem Rel.rvM(h:Rel N F M w0 st G H a w){r:ResultVar}{q:RV}(hq:Fy P r=some q)(hr:yH D st q=some x):∃v,(vq a.tmps r).run P w=.ok v w/\WR w (aZ M (ew D st.slot) G H) (ew D st.slot) G H x v/\yA D x=true:=by
 cases r with
 |tmp t=>
  simp only[Fy,aC] at hq;subst hq;simp only[yH] at hr;split at hr
  case h_2=>cases hr
  rename_i y hy;exact⟨_,rfl,h.tH (h.tm t _ hy) hr⟩
 |cell p ty=>
  simp only[Fy] at hq;split at hq
  case h_2=>cases hq
  rename_i n d hn hd;split at hq
  ·rename_i aW;simp only[aC] at hq;subst hq;simp only[yH] at hr;split at hr
   case h_2=>cases hr
   rename_i cs hc
   cases hp:st.get p with
   |none=>rw[hp] at hc;simp at hc
   |some pv=>
    rw[hp] at hc;obtain⟨b,o,us,e1,hlt,_,wR,hcs,hl⟩:=h.cells (h.tm p pv hp) hc;refine⟨.agg us.toArray,?_,h.tH (x:=.agg cs) ⟨us,rfl,hcs⟩ hr⟩;simp only[vq,e1,asAddr,nX,rP,qw];exact run_loadVar_mid w b o ty us d wR hd aW (by rw[hl];exact hn)
  ·rename_i aW;simp only[aC] at hq;subst hq;simp only[yH] at hr;split at hr
   case h_2=>cases hr
   rename_i c hc
   cases hp:st.get p with
   |none=>rw[hp] at hc;simp at hc
   |some pv=>
    rw[hp] at hc;obtain⟨b,o,us,e1,hlt,_,wR,hcs,hl⟩:=h.cells (h.tm p pv hp) hc
    obtain⟨u,rfl⟩:∃u,us=[u]:=by
     match us,hl with
     |[u],_=>exact⟨u,rfl⟩
    refine⟨u,?_,h.tH (x:=.c c) (hcs.2 0 c u rfl rfl) hr⟩;have hcell:=wR 0 u rfl;rw[uP] at hcell
    have wK:(isAgg ty).run P w=.ok false w:=by
     unfold isAgg;rw[nX,lL hd]
     cases d<;>first|rfl|(exact absurd rfl aW)
    simp[vq,e1,asAddr,loadVar,wK,hcell]
theorem Rel.adz(h:Rel N F M w0 st G H a w):∀{rs:List ResultVar} {qs:List RV} {xs:List AW},tF P rs=some qs->tI D st qs=some xs->∃vs:List Value,(rs.mapM (vq a.tmps)).run P w=.ok vs w/\vs.length=xs.length/\
  ∀(j:Nat) (x:AW) (v:Value),xs[j]? =some x->vs[j]? =some v->WR w (aZ M (ew D st.slot) G H) (ew D st.slot) G H x v/\yA D x=true
 |[],qs,xs,hq,hr=>by
  simp only[tF,aC] at hq;subst hq;simp only[tI,aC] at hr;subst hr;exact⟨[],ai,rfl,fun j x v e=>by simp at e⟩
 |r::rs,qs,xs,hq,hr=>by
  unfold tF at hq;split at hq
  case h_2=>cases hq
  rename_i q l g1 g2;simp only[aC] at hq;subst hq;unfold tI at hr;split at hr
  case h_2=>cases hr
  rename_i x l' h1 h2;simp only[aC] at hr;subst hr;obtain⟨v,e1,e2⟩:=h.rvM g1 h1;obtain⟨vs,e3,e4,e5⟩:=Rel.adz h g2 h2;refine⟨v::vs,by simp[EN,e1,e3],by simp[e4],fun j y u k1 k2=> ?_⟩
  cases j with
  |zero=>simp at k1 k2;subst k1;subst k2;exact e2
  |succ j=>exact e5 j y u (by simpa using k1) (by simpa using k2)
def Qy (D:List Nat)(rv:List RV)(Q:AV->(Nat->Slot)->Prop):fW->St->Prop
 | .exit _,_=>False
 |_,st=>∃xs,tI D st rv=some xs/\(∀s∈D,eQ D (st.slot s)=true)/\Q (dL xs) (ew D st.slot)
def VM:List AV->Nat->List Nat->List (Nat×AV)
 |[],_,vs=>uV vs
 |a::r,k,vs=>(k,a)::VM r (k+1) vs
theorem adA:∀{args:List AV} {k:Nat} {vs:List Nat} {i:Nat} {x:AV},aH (VM args k vs) i=some x->x=.u\/∃j,i=k+j/\args[j]? =some x
 |[],k,vs,i,x,h=> .inl (Wb h)
 |a::r,k,vs,i,x,h=>by
  simp only[VM,aH] at h;split at h
  ·rename_i hk;simp only[aC] at h;exact .inr ⟨0,hk.symm,by simp[h]⟩
  ·rcases adA h with h1|⟨j,h1,h2⟩
   ·exact .inl h1
   ·exact .inr ⟨j+1,ab,by simpa using h2⟩
theorem adB:∀(ss:List Nat) (s:Nat) (x:Slot),aH (S0 ss) s=some x->x=.dead 0
 |[],s,x,h=>by simp[S0,aH] at h
 |v::vs,s,x,h=>by
  simp only[S0,aH] at h;split at h
  ·simp only[aC] at h;exact h.symm
  ·exact adB vs s x h
theorem adC {α:Type}:∀(l m:List (Nat×α)) (s:Nat),aH (l++m) s=match aH l s with
  |some x=>some x
  |none=>aH m s
 |[],m,s=>rfl
 |(i,x)::l,m,s=>by
  simp only[List.cons_append,aH,adC l m s];split<;>rfl
theorem Wl {α:Type}:∀(T:List (Nat×α)) (s:Nat),aH T s=none↔s∉T.map (·.1)
 |[],s=>by simp[aH]
 |(i,x)::T,s=>by
  simp only[aH,cY,bZ,not_or];by_cases h:i=s
  ·subst h;simp
  ·rw[af h,Wl T s];exact⟨fun h1=>⟨fun e=>h e.symm,h1⟩,fun h1=>h1.2⟩
theorem adD(hE:∀p∈owns.eqs,qP P p.1 p.2){fn:Func}{c:Code}{b:eR}(hf:P.funcs[f]? =some fn)(hb:fn.body=some c)(ht:fY P owns fn.ntmps ts c=some b)(rv:List RV)(oB:tF P fn.results.toList=some rv)(args:List AV)(Fo:Nat.ble args.length fn.ntmps=true)(T:List (Nat×Slot))(vs ss:List Nat){Q:AV->(Nat->Slot)->Prop}
  (h:aL (lift P b) (Qy (T.map (·.1)) rv Q) ⟨VM args 0 vs,[],T++S0 ss⟩):gM P f args T Q:=by
 intro M w G H us bN hM hlen jI;have aCT:args.length<=fn.ntmps:=zX Fo;refine calls_of_wp hf hb ?_
 have jn:(St.mk (VM args 0 vs) [] (T++S0 ss)).slot=gL T:=funext fun s=>by
  unfold St.slot gL;dsimp only;rw[adC]
  cases h1:aH T s with
  |some x=>rfl
  |none=>
   dsimp only
   cases h2:aH (S0 ss) s with
   |none=>rfl
   |some x=>rw[adB ss s x h2];rfl
 have hlt:∀s b,bl (gL T) G H s b->b<w.heap.size:=fun s b hl=>by
  rcases hl with⟨g,cs,h1,rfl⟩|⟨e,k,g,es,h1,h2⟩|⟨g,K,h1,h2⟩
  ·obtain⟨_,arr,h3,_⟩:=bN.bx s g cs h1;exact h3.lt
  ·obtain⟨_,xs,h3,_⟩:=bN.rw s e k g es h1;exact(h3.lt b h2).2
  ·exact K.lt (bN.ob s g K h1).2 b h2
 have hR:Rel fn.ntmps (fun b=>b<w.heap.size/\∀s,¬bl (gL T) G H s b) M ⟨w,gL T,G,H⟩ ⟨VM args 0 vs,[],T++S0 ss⟩ G H { tmps:=us.toArray++Array.replicate (fn.ntmps-us.toArray.size) undef,defers:=[] } w:=by
  refine⟨by simp;omega,rfl,⟨rfl,rfl,rfl,cI _,fun _ _=>rfl⟩,⟨fun s=>(by rw[jn];exact cI _),fun s e k g es hs _=>(by rw[jn] at hs;exact⟨⟨es,hs⟩,rfl⟩),fun s g cs hs _=>(by rw[jn] at hs;exact⟨⟨cs,hs⟩,rfl⟩),fun s g K hs _=>(by rw[jn] at hs;exact⟨⟨K,hs⟩,rfl,rfl⟩)⟩,⟨fun b hb=>hb.elim (·.1) (hM.1 b),hM.2⟩,fun i x hx=> ?_,
   fun s g cs hs=> ?_,fun s e k g es hs=> ?_,fun s g K hs=> ?_,by rw[jn];exact bN.dj⟩
  ·have qL:aH (VM args 0 vs) i=some x:=by
    unfold St.get at hx;dsimp only at hx;split at hx
    ·rename_i v hv;rw[hv];exact hx
    ·simp[aH] at hx
   rcases adA qL with rfl|⟨j,hj,hy⟩
   ·trivial
   ·rw[eM] at hj;subst hj;have hi:=(bG.1 hy).1;have hv:us[i]? =some (us[i]' ab):=cy ab;have hw:=jI i x _ hy hv
    have pA:(us.toArray++Array.replicate (fn.ntmps-us.toArray.size) undef).getD i undef=us[i]' ab:=by
     simp[Lj,Array.getElem?_append,show i<us.length by omega]
    rw[pA,jn];exact hw
  ·rw[jn] at hs⊢;obtain⟨g1,arr,g2,g3⟩:=bN.bx s g cs hs;exact⟨fun hh=>hh.2 s (.inl ⟨g,cs,hs,rfl⟩),g1,arr,g2,g3⟩
  ·rw[jn] at hs⊢;obtain⟨g1,xs,g2,g3⟩:=bN.rw s e k g es hs;exact⟨fun b hb=>⟨fun hh=>hh.2 s (.inr (.inl ⟨e,k,g,es,hs,hb⟩)),g1 b hb⟩,xs,g2,g3⟩
  ·rw[jn] at hs⊢;obtain⟨g1,g2⟩:=bN.ob s g K hs;exact⟨fun b hb=>⟨fun hh=>hh.2 s (.inr (.inr ⟨g,K,hs,hb⟩)),g1 b hb⟩,g2⟩
 refine acY (adk hE ht) hR h fun e st' G' H' a' w' hq bI=> ?_
 have apl:∀s,aH T s=none->s∉T.map (·.1):=fun s hs=>(Wl T s).1 hs
 have fin:(∃xs,tI (T.map (·.1)) st' rv=some xs/\(∀s∈T.map (·.1),eQ (T.map (·.1)) (st'.slot s)=true)/\Q (dL xs) (ew (T.map (·.1)) st'.slot))->
   a'.defers=[]/\∃v,(results fn a'.tmps).run P w'=.ok v w'/\∃v' r S' G' H',Ending.returned v=.returned v'/\Q r S'/\VR w' (aZ M S' G' H') S' G' H' r v'/\LX M S' G' H' w'/\PU ⟨w,gL T,G,H⟩ S' G' H'/\
   Fr (fun b=>b<w.heap.size/\∀s,¬bl (gL T) G H s b) w w'/\(∀s b,bl S' G' H' s b->(∃s0,bl (gL T) G H s0 b)\/w.heap.size<=b)/\∀s,aH T s=none->S' s=.dead 0:=by
  rintro⟨xs,au,nM,hQ⟩;obtain⟨us',e1,e2,e3⟩:=bI.adz oB au;have hrun:=ada (fn:=fn) e1
  have pF:∀{z:AC} {v:Value},IR w' (aZ M st'.slot G' H') z v->IR w' (aZ M (ew (T.map (·.1)) st'.slot) G' H') z v:=fun hz=>hz.mono aA (fun b _ hb=>Wk hb) (fun _ _ _=>rfl)
  have nO:∀s,s∈T.map (·.1)->ew (T.map (·.1)) st'.slot s=st'.slot s:=fun s hs=>by unfold ew;rw[aj hs]
  refine⟨bI.df,_,hrun,_,dL xs,ew (T.map (·.1)) st'.slot,G',H',rfl,hQ,?_,⟨fun s g cs hs=> ?_,fun s e k g es hs=> ?_,fun s g K hs=> ?_,fun s s' b h1 h2=>bI.dj s s' b ((Mi s b).1 h1).2 ((Mi s' b).1 h2).2⟩,⟨fun s=> ?_,fun s e k g es hs hg=> ?_,fun s g cs hs hg=> ?_,fun s g K hs hg=> ?_⟩,bI.fr,fun s b hl=> ?_,fun s hs=> ?_⟩
  ·match xs,us',e2,e3 with
   |[x],[u],_,e3=>exact(e3 0 x u rfl rfl).1
   |[],[],_,e3=>exact⟨[],rfl,rfl,fun j x u e=>by simp at e⟩
   |x::y::r,u::v::q,e2,e3=>
    have hne:¬(u::v::q).toArray.size=1:=ai;rw[dif_neg hne];exact⟨u::v::q,rfl,e2,fun j x u h1 h2=>(e3 j x u h1 h2).1⟩
  ·by_cases hd:s∈T.map (·.1)
   ·rw[nO s hd] at hs;obtain⟨_,g2,arr,g3,g4⟩:=bI.bx s g cs hs;have hc:=nM s hd;rw[hs] at hc;refine⟨g2,arr,g3,g4.1,fun j x u h1 h2=> ?_⟩;have hx:=g4.2 j x u h1 h2;have wY:=fg.1 hc x (dD h1)
    cases x with
    |v x=>exact pF hx
    |sl es=>exact pF hx
    |fc f bP=>exact pF hx
    |cB s' g'=>
     have dm:s'∈T.map (·.1):=by simpa [kL] using wY
     obtain⟨q1,q2,q3⟩:=hx;exact⟨q1,by rw[nO s' dm];exact q2,fun K he=>by rw[nO s' dm] at he;exact q3 K he⟩
    |part s' g' i'=>
     have dm:s'∈T.map (·.1):=by simpa [kL] using wY
     obtain⟨q1,q2,q3⟩:=hx;exact⟨q1,by rw[nO s' dm];exact q2,fun K he=>by rw[nO s' dm] at he;exact q3 K he⟩
    |cls f bP=>
     obtain⟨ps,q1,q2,q3⟩:=hx;refine⟨ps,q1,q2,fun i q p e1 e2=> ?_⟩
     have hq:q.1∈T.map (·.1):=by
      have h4:bP.all (fun q=>(T.map (·.1)).contains q.1)=true:=wY;have:=fg.1 h4 q (dD e1);simpa using this
     obtain⟨q4,q5⟩:=q3 i q p e1 e2;exact⟨by rw[nO _ hq];exact q4,fun cs he=>by rw[nO _ hq] at he;exact q5 cs he⟩
    |own s' g'=>
     have dm:s'∈T.map (·.1):=by simpa [kL] using wY
     obtain⟨q1,q2,q3⟩:=hx;exact⟨q1,by rw[nO s' dm];exact q2,fun e k es he=>by rw[nO s' dm] at he;exact q3 e k es he⟩
   ·unfold ew at hs;rw[af hd] at hs;cases hs
  ·by_cases hd:s∈T.map (·.1)
   ·rw[nO s hd] at hs;obtain⟨g1,ys,g3,g4⟩:=bI.rw s e k g es hs;exact⟨fun b hb=>(g1 b hb).2,ys,g3,g4.map fun x u hx=>pF hx⟩
   ·unfold ew at hs;rw[af hd] at hs;cases hs
  ·by_cases hd:s∈T.map (·.1)
   ·rw[nO s hd] at hs;obtain⟨g1,g2⟩:=bI.ob s g K hs;exact⟨fun b hb=>(g1 b hb).2,K.mono g2 aA (fun b _ hb=>Wk hb) (fun _ _ _=>rfl)⟩
   ·unfold ew at hs;rw[af hd] at hs;cases hs
  ·by_cases hd:s∈T.map (·.1)
   ·rw[nO s hd];exact bI.hs.gen s
   ·have hn:aH T s=none:=(Wl T s).2 hd
    show(gL T s).gen<=_
    unfold gL;rw[hn];exact Ai _
  ·by_cases hd:s∈T.map (·.1)
   ·rw[nO s hd] at hs;exact bI.hs.row s e k g es hs hg
   ·unfold ew at hs;rw[af hd] at hs;cases hs
  ·by_cases hd:s∈T.map (·.1)
   ·rw[nO s hd] at hs;exact bI.hs.box s g cs hs hg
   ·unfold ew at hs;rw[af hd] at hs;cases hs
  ·by_cases hd:s∈T.map (·.1)
   ·rw[nO s hd] at hs;exact bI.hs.obj s g K hs hg
   ·unfold ew at hs;rw[af hd] at hs;cases hs
  ·have AJ:=(bI.py ((Mi s b).1 hl).2).2.1;by_cases hb:b<w.heap.size
   ·left
    exact EE fun hne=>AJ ⟨hb,fun s0 se=>hne ⟨s0,se⟩⟩
   ·right;omega
  ·unfold ew;rw[af (apl s hs)]
 cases e with
 |normal=>exact fin hq
 |exit id=>exact hq.elim
 |ret=>exact fin hq
theorem apm{U:Option (List Nat)}{r:List BO}(ha:lX st ys=some ws)(hc:ws.all (gO D)=true)(hD:∀s∈D,(aH st.S s).isSome=true/\eQ D (st.slot s)=true)(hU:∀s∈D,wJ U s)(hC:gM P f ws (fP st D) R)
  (hr:∀x S',R x S'->(gO D x=true/\∀s∈D,eQ D (S' s)=true)/\bm U (r.map (BO.ao P)) K ((lY D S' st).dZ d x)):bm U ((⟨d,none,.mH f ys D⟩::r:List BO).map (BO.ao P)) K st:=⟨ws,R,ha,hc,hD,hU,hC,fun x S' hx=>hr x S' hx⟩
theorem apn{U:List Nat}{l:List BO}{tl:List AO}{i:Nat}{t:OT}{bp:Bool}(hi:l[i]? =some ⟨d,none,.mH f ys D⟩)(ha:lX st ys=some ws)(hc:ws.all (gO D)=true)
  (hD:∀s∈D,(aH st.S s).isSome=true/\eQ D (st.slot s)=true) (hU:∀s∈D,s∈U) (hC:gM P f ws (fP st D) R) (h:∀x S',R x S'->(gO D x=true/\∀s∈D,eQ D (S' s)=true)/\aU U (l.map (BO.ao P)) tl K t true ((lY D S' st).dZ d x)):
  aU U (l.map (BO.ao P)) tl K (.move i t) bp st:=by
 unfold aU;rw[eZ,hi];exact⟨ws,R,ha,hc,hD,hU,hC,fun x S' hx=>h x S' hx⟩
end
section
variable {P:Program} {Q:fW->St->Prop} {V L:List (Nat×AV)} {S:List (Nat×Slot)} {st:St} {x y z:eR}
variable {t:aP}
theorem adE(hb:st.sc t=some (.bool true))(h:aL (lift P (.seq x z)) Q st):aL (lift P (.seq (.cond t x y) z)) Q st:=kO true hb h
theorem adF(hb:st.sc t=some (.bool false))(h:aL (lift P (.seq y z)) Q st):aL (lift P (.seq (.cond t x y) z)) Q st:=kO false hb h
theorem adG(hb:st.sc t=some (.bool true))(h:aL (lift P x) Q st):aL (lift P (.cond t x y)) Q st:=CT true hb h
theorem adH(hb:st.sc t=some (.bool false))(h:aL (lift P y) Q st):aL (lift P (.cond t x y)) Q st:=CT false hb h
theorem Qz(h:Q .normal st):aL (lift P .skip) Q st:=h
theorem adI{U:List Nat}{l:List AO}{l2:List BO}{n:Nat}{K:St->Prop}{bp:Bool}{r:List BO}(hr:l2.drop n=r)(h:bm none (r.map (BO.ao P)) K st):aU U l ((l2.drop n).map (BO.ao P)) K .nil bp st:=by subst hr;exact h
end
@[simp] theorem aCU (b:Bool):CE .not (.bool b)=some (.bool !b):=rfl
theorem adJ {a:Int}(h1: -9223372036854775807<=a)(h2:a<=9223372036854775807):CE .neg (.int .i64 a)=some (.int .i64 (-a)):=by simp[CE,wrap64 (n:= -a) ab ab]
@[simp] theorem aCV (k:IntKind)(a b:Int):Fc true (.int k a) (.int k b)=some (.int k (max a b)):=by simp[Fc]
@[simp] theorem aCW (k:IntKind)(a b:Int):Fc false (.int k a) (.int k b)=some (.int k (min a b)):=by simp[Fc]
@[simp] theorem apo (a b:ByteArray):bt .eql (.string a) (.string b)=some (.bool (a.toList==b.toList)):=rfl
@[simp] theorem apq (a b:ByteArray):bt .neq (.string a) (.string b)=some (.bool (!(a.toList==b.toList))):=rfl
def lB:List (Nat×Slot)->St->St
 |[],st=>st
 |(s,x)::l,st=>lB l (st.bR s x)
theorem Wm:∀(l:List (Nat×Slot)) (S:List (Nat×Slot)) (D:List Nat) (S':Nat->Slot),(∀p∈l,S' p.1=p.2)->(∀s,s∈l.map (·.1)↔s∈D)->
  (S.map fun p=>if D.contains p.1 then(p.1,S' p.1) else p)=l.foldl (fun S p=>pw S p.1 p.2) S:=by
 intro l
 induction l with
 |nil=>
  intro S D S' _ hD
  have:∀s,D.contains s=false:=fun s=>by have:=hD s;simpa using this
  simp only[List.foldl_nil]
  conv=>rhs;rw[<-List.map_id S]
  apply Ix;intro p _;rw[this p.1];simp
 |cons q l ih=>
  intro S D S' h hD;obtain⟨s,x⟩:=q;have hx:S' s=x:=h (s,x) ai
  have fq:∀S:List (Nat×Slot),pw S s x=S.map fun p=>if p.1=s then(p.1,x) else p:=fun S=>by
   induction S with
   |nil=>rfl
   |cons p S ihS=>
    obtain⟨i,y⟩:=p;simp only[pw,cY,ihS];split<;>rfl
  simp only[yi];rw[<-ih (pw S s x) (l.map (·.1)) S' (fun p hp=>h p (by simp[hp])) (fun _=>Iff.rfl),fq,List.map_map];apply Ix;intro p _;have hd:=hD p.1;simp only[cY,bZ] at hd;by_cases kP:p.1=s
  ·have:p.1∈D:=hd.1 (.inl kP);obtain⟨i,y⟩:=p;dsimp only at kP this;subst kP
   have hc:D.contains i=true:=by simpa using this
   simp only[Function.comp,mr,hc,hx];split<;>rfl
  ·by_cases hl:p.1∈l.map (·.1)
   ·have:p.1∈D:=hd.1 (.inr hl);simp[Function.comp,kP,this,hl]
   ·have:¬p.1∈D:=fun hh=>by rcases hd.2 hh with h|h;exact kP h;exact hl h
    simp[Function.comp,kP,this,hl]
theorem Mj:∀(l:List (Nat×Slot)) (st:St),lB l st=⟨st.V,st.L,l.foldl (fun S p=>pw S p.1 p.2) st.S⟩
 |[],_=>rfl
 |(s,x)::l,st=>by
  unfold lB;rw[Mj l];rfl
section
variable {P:Program}
variable {D:List Nat} {K:St->Prop} {Ys:List (Nat×Slot)} {d:Option Nat} {f:FuncId} {st st':St} {ws:List AV} {x0:AV} {ys:List aP}
theorem Wn{U:Option (List Nat)}{r:List BO}(ha:lX st ys=some ws)(hc:ws.all (gO D)=true)(hD:∀s∈D,(aH st.S s).isSome=true/\eQ D (st.slot s)=true)(hU:∀s∈D,pI U s=true)
  (hC:gM P f ws (fP st D) (fun x S'=>x=x0/\∀p∈Ys,S' p.1=p.2)) (hY:Ys.map (·.1)=D) (hx:gO D x0=true) (dp:∀p∈Ys,eQ D p.2=true) (hst:(lB Ys st).dZ d x0=st') (h:bm U (r.map (BO.ao P)) K st'):
  bm U ((⟨d,none,.mH f ys D⟩::r:List BO).map (BO.ao P)) K st:=by
 refine apm ha hc hD (fun s hs=>Qs (hU s hs)) hC ?_;rintro x S' ⟨rfl,hS⟩;refine⟨⟨hx,fun s hs=> ?_⟩,?_⟩
 ·rw[<-hY] at hs;obtain⟨p,hp,rfl⟩:=dh.1 hs;rw[hS p hp];exact dp p hp
 ·have:lY D S' st=lB Ys st:=by
   rw[Mj];unfold lY;rw[Wm Ys st.S D S' hS (fun s=>by rw[hY])]
  rw[this,hst];exact h
theorem adK{U:List Nat}{l:List BO}{tl:List AO}{i:Nat}{t:OT}{bp:Bool}(hi:l[i]? =some ⟨d,none,.mH f ys D⟩)(ha:lX st ys=some ws)(hc:ws.all (gO D)=true)
  (hD:∀s∈D,(aH st.S s).isSome=true/\eQ D (st.slot s)=true) (hU:∀s∈D,s∈U) (hC:gM P f ws (fP st D) (fun x S'=>x=x0/\∀p∈Ys,S' p.1=p.2)) (hY:Ys.map (·.1)=D) (hx:gO D x0=true) (dp:∀p∈Ys,eQ D p.2=true) (hst:(lB Ys st).dZ d x0=st') (h:aU U (l.map (BO.ao P)) tl K t true st'):
  aU U (l.map (BO.ao P)) tl K (.move i t) bp st:=by
 refine apn hi ha hc hD hU hC ?_;rintro x S' ⟨rfl,hS⟩;refine⟨⟨hx,fun s hs=> ?_⟩,?_⟩
 ·rw[<-hY] at hs;obtain⟨p,hp,rfl⟩:=dh.1 hs;rw[hS p hp];exact dp p hp
 ·have:lY D S' st=lB Ys st:=by
   rw[Mj];unfold lY;rw[Wm Ys st.S D S' hS (fun s=>by rw[hY])]
  rw[this,hst];exact h
theorem apr{rv:List RV}{Q:AV->(Nat->Slot)->Prop}{xs:List AW}(h:tI D st rv=some xs)(hc:∀s∈D,eQ D (st.slot s)=true)(hQ:Q (dL xs) (ew D st.slot)):Qy D rv Q .ret st:=⟨xs,h,hc,hQ⟩
end
@[simp] theorem aCX (D:List Nat)(g:Nat):eQ D (.dead g)=true:=rfl
@[simp] theorem aCY (D:List Nat)(e k g:Nat)(es:List (List AC)):eQ D (.row e k g es)=true:=rfl
@[simp] theorem aCZ (D:List Nat)(g:Nat)(cs:List AC):eQ D (.box g cs)=cs.all (kL D):=rfl
@[simp] theorem aDa {α β:Type}(f:α->β)(l:List α):(l.map f).take l.length=l.map f:=by rw[lK ai]
attribute [simp] lX gO yA kL fP lB VM tI yH ew gL St.tH St.oD St.jK
def QA (P:Program)(a:fX)(ops:Array Oper)(o:Oper):BO:=⟨o.dst,(match o.guard with
 |none=>none
 |some (j,want)=>match(ops[j]?).bind (·.dst) with
  |some t=>some (t,want)
  |none=>none),match Qq P a o with
 |some x=>x
 |none=> .mv (.t 0)⟩
def Mk (P:Program)(a:fX)(ops:Array Oper):List Oper->List BO
 |[]=>[]
 |o::l=>QA P a ops o::Mk P a ops l
def ij (P:Program)(a:fX)(ts:Trees):Code->eR
 | .skip=> .skip
 | .ret=> .ret
 | .exit id=> .exit id
 | .seq x y=> .seq (ij P a ts x) (ij P a ts y)
 | .cond t x y=> .cond (match dP t with |some t=>t|none=> .t 0) (ij P a ts x) (ij P a ts y)
 | .block id c=> .block id (ij P a ts c)
 | .loop c=> .loop (ij P a ts c)
 | .region id ops d=>Me ((aH a.lz id).getD []) (Mf ((aH a.VH id).getD []) (match d with
  |false=> .region (Mk P a ops ops.toList)
  |true=>match VX ts id with
   |some (n,t,U)=> .rY (Mk P a ops ops.toList) n t U
   |none=> .skip))
 |_=> .skip
section
variable {P:Program} {a:fX} {N:Nat} {ts:Trees} {ops:Array Oper}
theorem aps {o:Oper}{b:BO}(h:Mg P a N ops o=some b):QA P a ops o=b:=by
 unfold Mg at h;split at h
 ·cases h
 rename_i op hop;split at h
 case isFalse=>cases h
 split at h
 ·rename_i hg;simp only[aC] at h;subst h;simp[QA,hg,hop]
 ·rename_i j want hg;split at h
  ·rename_i t ht;simp only[aC] at h;subst h;simp[QA,hg,hop,ht]
  ·cases h
theorem Wo:∀{os:List Oper} {l:List BO},CP P a N ops os=some l->Mk P a ops os=l
 |[],l,h=>by
  simp only[CP,aC] at h;subst h;rfl
 |o::os,l,h=>by
  unfold CP at h;split at h
  ·rename_i b q h1 h2;simp only[aC] at h;subst h;simp[Mk,aps h1,Wo h2]
  ·cases h
theorem apt:∀{c:Code} {b:eR},fY P a N ts c=some b->ij P a ts c=b:=by
 intro c
 induction c with
 |skip=>intro b h;simp only[fY,aC] at h;subst h;rfl
 |ret=>intro b h;simp only[fY,aC] at h;subst h;rfl
 |exit id=>intro b h;simp only[fY,aC] at h;subst h;rfl
 |seq x y wN wP=>
  intro b h;unfold fY at h;split at h
  ·rename_i p q h1 h2;simp only[aC] at h;subst h;simp only[ij,wN h1,wP h2]
  ·cases h
 |cond t x y wN wP=>
  intro b h;unfold fY at h;split at h
  ·rename_i u p q h0 h1 h2;simp only[aC] at h;subst h;simp only[ij,wN h1,wP h2,h0]
  ·cases h
 |block id c ih=>
  intro b h;simp only[fY,bK] at h;obtain⟨p,h1,rfl⟩:=h;simp only[ij,ih h1]
 |loop c ih=>
  intro b h;simp only[fY,bK] at h;obtain⟨p,h1,rfl⟩:=h;simp only[ij,ih h1]
 |region id ops d=>
  intro b h;unfold fY at h;split at h
  ·rename_i l hl
   cases d with
   |false=>
    simp only[aC] at h;subst h;simp only[ij,Wo hl]
   |true=>
    dsimp only at h;split at h
    ·rename_i n t U ht;split at h
     ·simp only[aC] at h;subst h;simp only[ij,Wo hl,ht]
     ·cases h
    ·cases h
  ·cases h
 |_=>intro b h;simp[fY] at h
end
def tk:Nat->Nat->OT->OT
 |_,0,t=>t
 |a,n+1,t=> .take a (tk (a+1) n t)
def tz (r n:Nat):Nat×Nat×OT×List Nat:=(r,n,tk 0 n .nil,[])
def tm (r n:Nat):Nat×Nat×OT×List Nat:=(r,n+1,tk 0 n (.move n .nil),[])
def aB (b:Nat)(l:List Nat):fX:=⟨b,l,[],[],dc,[],[]⟩
def aO (l:List Nat):fX:=aB 0 l
def aN:fX:=aO []
def Ml (P:Program)(a:fX)(ts:Trees)(fn:Func):Bool:=(fY P a fn.ntmps ts (fn.body.getD .skip)).isSome && fn.body.isSome
theorem Wp {P:Program}{a:fX}{ts:Trees}{fn:Func}{b:eR}(h:Ml P a ts fn=true)(hb:ij P a ts (fn.body.getD .skip)=b):∃c,fn.body=some c/\fY P a fn.ntmps ts c=some b:=by
 unfold Ml at h
 cases hc:fn.body with
 |none=>rw[hc] at h;simp at h
 |some c=>
  rw[hc] at h hb;simp only[Ad,Option.isSome_some,Bool.and_true] at h hb;obtain⟨x,hx⟩:=PA.1 h;exact⟨c,rfl,by rw[hx,<-hb,apt hx]⟩
section
variable {P:Program} {a:fX} {N:Nat} {ts:Trees} {ops:Array Oper}
variable {p q:eR} {x y:Code}
theorem evS(h1:ij P a ts x=p)(h2:ij P a ts y=q):ij P a ts (.seq x y)=.seq p q:=by subst h1 h2;rfl
theorem evB{id:Nat}(h1:ij P a ts x=p):ij P a ts (.block id x)=.block id p:=by subst h1;rfl
theorem evL(h1:ij P a ts x=p):ij P a ts (.loop x)=.loop p:=by subst h1;rfl
theorem evC{t:Operand}{u:aP}(h1:ij P a ts x=p)(h2:ij P a ts y=q)(h0:dP t=some u:=by rfl):ij P a ts (.cond t x y)=.cond u p q:=by subst h1 h2;simp only[ij,h0]
end
variable {D:List Nat} {V:List (Nat×AV)} {b:eR} {f:FuncId} {fn:Func}
theorem cD{args:List AW}{Q:AV->Prop}{S:List (Nat×Slot)}(hf:Tryz.prog.funcs[f]? =some fn)(a:fX)(ts:Trees)(rv:List RV)(vs ss:List Nat)(k:aL (lift Tryz.prog b) (Qv rv Q) ⟨V,[],S⟩)
  (h:ij Tryz.prog a ts (fn.body.getD .skip)=b:=by first|(cbv;done)|(repeat' (first|apply evS|apply evB|apply evL|apply evC|(cbv;done)))) (ok:Ml Tryz.prog a ts fn=true:=by kernel_rfl) (oB:tF Tryz.prog fn.results.toList=some rv:=by kernel_rfl) (hE:a.eqs=dc:=by exact rfl) (hn:Nat.ble args.length fn.ntmps=true:=by exact rfl) (hV:V0 args 0 vs=V:=by(dsimp only[V0,uV])<;>rfl) (hS:S0 ss=S:=by(dsimp only[S0])<;>rfl):bu Tryz.prog f args Q:=by
 subst hV hS;obtain⟨c,h1,h2⟩:=Wp ok h;exact adr (by rw[hE];exact VF) hf h1 h2 rv oB args hn vs ss k
theorem pK{args:List AV}{T:List (Nat×Slot)}{Q:AV->(Nat->Slot)->Prop}{S:List (Nat×Slot)}(hf:Tryz.prog.funcs[f]? =some fn)(a:fX)(ts:Trees)(rv:List RV)(vs ss:List Nat)(k:aL (lift Tryz.prog b) (Qy D rv Q) ⟨V,[],S⟩)
  (h:ij Tryz.prog a ts (fn.body.getD .skip)=b:=by first|(cbv;done)|(repeat' (first|apply evS|apply evB|apply evL|apply evC|(cbv;done)))) (ok:Ml Tryz.prog a ts fn=true:=by kernel_rfl) (oB:tF Tryz.prog fn.results.toList=some rv:=by kernel_rfl) (hE:a.eqs=dc:=by exact rfl) (hn:Nat.ble args.length fn.ntmps=true:=by exact rfl) (hV:VM args 0 vs=V:=by(dsimp only[VM,uV])<;>rfl) (hS:T++S0 ss=S:=by(dsimp only[S0,List.cons_append,List.nil_append])<;>rfl) (hD:T.map (·.1)=D:=by(dsimp only[List.map])<;>rfl):gM Tryz.prog f args T Q:=by
 subst hV hS hD;obtain⟨c,h1,h2⟩:=Wp ok h;exact adD (by rw[hE];exact VF) hf h1 h2 rv oB args hn T vs ss k
theorem adL{P:Program}{U:Option (List Nat)}{d:Option Nat}{ys:List aP}{r:List BO}{K:St->Prop}{st st':St}{ws:List AV}{x0:AV}{Ys:List (Nat×Slot)}{t:Nat}{want:Bool}(hg:kM (st.arg (.t t)) want=some true)(ha:lX st ys=some ws)(hc:ws.all (gO D)=true)(hD:∀s∈D,(aH st.S s).isSome=true/\eQ D (st.slot s)=true)(hU:∀s∈D,pI U s=true)
  (hC:gM P f ws (fP st D) (fun x S'=>x=x0/\∀p∈Ys,S' p.1=p.2)) (hY:Ys.map (·.1)=D) (hx:gO D x0=true) (dp:∀p∈Ys,eQ D p.2=true) (hst:(lB Ys st).dZ d x0=st') (h:bm U (r.map (BO.ao P)) K st'):
  bm U ((⟨d,some (t,want),.mH f ys D⟩::r:List BO).map (BO.ao P)) K st:=by
 show(match kM (st.arg (.t t)) want with
  |some true=>_
  |some false=>_
  |none=>False)
 rw[hg];exact Wn (d:=d) ha hc hD hU hC hY hx dp hst h
attribute [local irreducible] aL bm aU
def QB (b:BO):Bool:=match b.g,b.op with |none,.call ..=>false|none,.mH ..=>false|none,.pH ..=>false|_,.app ..=>false|_,_=>true
def isApp (b:BO):Bool:=match b.op with | .app ..=>true|_=>false
section
variable {P:Program} {Q:fW->St->Prop} {V L:List (Nat×AV)} {S:List (Nat×Slot)} {st:St} {x y z:eR}
end
variable {p:Prop}
theorem tJ(h:p:=by(simp[FF]);(try rfl);(first|done|fail)):p:=h
theorem lC(h:p:=by(simp[FF]);(first|done|fail)):p:=h
theorem Wq(h:p:=by(simp[FF,cQ,rowsOf,List.range,List.range.loop]);(try rfl);(first|done|fail)):p:=h
theorem adM(h:p:=by(simp[FF]);(first|done|exact⟨rfl,rfl,rfl⟩|rfl)):p:=h
theorem adN(h:p:=by(simp[St.ly,FF]);(first|done|exact⟨rfl,rfl,rfl⟩|rfl)):p:=h
theorem apu(h:p:=by(first|(simp[FF];done)|(simp[FF];omega))):p:=h
theorem tK(h:p:=by(simp[FF,<-List.map_take,<-List.map_drop]);(try rfl);(first|done|fail)):p:=h
theorem lD(h:p:=by(simp[FF,<-List.map_take,<-List.map_drop]);(first|done|fail)):p:=h
theorem Ws(h:p:=by(simp[FF,<-List.map_take,<-List.map_drop,cQ,rowsOf,List.range,List.range.loop]);(try rfl);(first|done|fail)):p:=h
theorem adO(h:p:=by(simp[FF,<-List.map_take,<-List.map_drop]);(first|done|exact⟨rfl,rfl,rfl⟩|rfl)):p:=h
theorem adP(h:p:=by(simp[St.ly,FF,<-List.map_take,<-List.map_drop]);(first|done|exact⟨rfl,rfl,rfl⟩|rfl)):p:=h
theorem apv(h:p:=by(first|(simp[FF,<-List.map_take,<-List.map_drop];done)|(simp[FF,<-List.map_take,<-List.map_drop];omega))):p:=h
section
variable {U:Option (List Nat)}
variable {d:Option Nat}
variable {f:FuncId}
variable {ys:List aP}
variable {r l l2:List BO}
variable {st':St}
variable {K:St->Prop}
variable {ws:List AW}
variable {x0:AV}
variable {t:OT}
variable {want bp:Bool}
variable {D:List Nat}
variable {Ys:List (Nat×Slot)}
variable {n e k s g i off:Nat}
variable {p q u v:aP}
variable {es:List (List AC)}
variable {b:BO}
variable {tl:List AO}
variable {P:Program} {Q:fW->St->Prop} {V L:List (Nat×AV)} {S:List (Nat×Slot)} {st:St} {x y z:eR}
theorem wZ {x:AV}(hC:bu P f ws (fun y=>y=x))(hr:bm U (r.map (BO.ao P)) K (st.dZ d x))(ha:nL st ys=some ws:=by first|exact tJ|fail):
  bm U ((⟨d,none,.call f ys⟩::r:List BO).map (BO.ao P)) K st:=CQ ha hC hr
theorem xa {x:AV}{t:Nat}(hC:bu P f ws (fun y=>y=x))(hr:bm U (r.map (BO.ao P)) K (st.dZ d x))(hg:st.sc (.t t)=some (.bool want):=by first|exact lC|fail)(ha:nL st ys=some ws:=by first|exact tJ|fail):
  bm U ((⟨d,some (t,want),.call f ys⟩::r:List BO).map (BO.ao P)) K st:=ads hg ha hC hr
theorem tM {ws:List AV}(hC:gM P f ws (fP st D) (fun x S'=>x=x0/\∀p∈Ys,S' p.1=p.2))(h:bm U (r.map (BO.ao P)) K st')(ha:lX st ys=some ws:=by first|exact tJ|fail)(hc:ws.all (gO D)=true:=by first|exact lC|fail)(hD:∀s∈D,(aH st.S s).isSome=true/\eQ D (st.slot s)=true:=by first|exact lC|fail)(hU:∀s∈D,pI U s=true:=by first|exact lC|fail)(hY:Ys.map (·.1)=D:=by exact rfl)(hx:gO D x0=true:=by first|exact lC|fail)(dp:∀p∈Ys,eQ D p.2=true:=by first|exact lC|fail)(hst:(lB Ys st).dZ d x0=st':=by first|exact tJ|fail):
  bm U ((⟨d,none,.mH f ys D⟩::r:List BO).map (BO.ao P)) K st:=Wn ha hc hD hU hC hY hx dp hst h
theorem tN {ws:List AV}{t:Nat}(hC:gM P f ws (fP st D) (fun x S'=>x=x0/\∀p∈Ys,S' p.1=p.2))(h:bm U (r.map (BO.ao P)) K st')(hg:kM (st.arg (.t t)) want=some true:=by first|exact lC|fail)(ha:lX st ys=some ws:=by first|exact tJ|fail)(hc:ws.all (gO D)=true:=by first|exact lC|fail)(hD:∀s∈D,(aH st.S s).isSome=true/\eQ D (st.slot s)=true:=by first|exact lC|fail)(hU:∀s∈D,pI U s=true:=by first|exact lC|fail)(hY:Ys.map (·.1)=D:=by exact rfl)(hx:gO D x0=true:=by first|exact lC|fail)(dp:∀p∈Ys,eQ D p.2=true:=by first|exact lC|fail)(hst:(lB Ys st).dZ d x0=st':=by first|exact tJ|fail):
  bm U ((⟨d,some (t,want),.mH f ys D⟩::r:List BO).map (BO.ao P)) K st:=adL hg ha hc hD hU hC hY hx dp hst h
theorem yI (h:bm U (r.map (BO.ao P)) K st')(hx:ma U (ox D st) ⟨d,none,.store n p q⟩=some st':=by first|exact tJ|fail):
  bm U ((⟨d,none,.pH D n p q⟩::r:List BO).map (BO.ao P)) K st:=adu hx h
theorem yJ {ys:List (List AC)}(h:bm U (r.map (BO.ao P)) K st')(hx:st.arg u=some (.w (.c (.own s g))):=by exact rfl)(hs:aH st.S s=some (.row e k g es):=by exact rfl)(hy:st.rows [s] (st.arg v)=some ys:=by exact rfl)(hk:∀row∈ys,row.length=k:=by first|exact lC|fail)(hl:es.length+ys.length<=100000000:=by first|exact apu|fail)(hU:pI U s=true:=by exact rfl)(hst:(st.bR s (.row e k (g+1) (es++ys))).dZ d (.w (.c (.own s (g+1))))=st':=by first|exact tJ|fail):
  bm U ((⟨d,none,.app e k u v⟩::r:List BO).map (BO.ao P)) K st:=CS hx hs hy hk hl hU hst h
theorem yK (hr:bm U (r.map (BO.ao P)) K st')(hp:QB b=true:=by exact rfl)(h:ma U st b=some st':=by first|exact Wq|fail):
  bm U ((b::r).map (BO.ao P)) K st:=bg h hr
theorem yL {U:List Nat}(h:aU U (l.map (BO.ao P)) tl K t bp st')(hi:l[i]? =some b:=by exact rfl)(hx:CU U st b bp=some st':=by first|exact tJ|fail):
  aU U (l.map (BO.ao P)) tl K (.take i t) bp st:=pJ hi hx h
theorem xc {U:List Nat}{x:AV}(hC:bu P f ws (fun y=>y=x))(h:aU U (l.map (BO.ao P)) tl K t true (st.dZ d x))(hi:l[i]? =some ⟨d,none,.call f ys⟩:=by exact rfl)(ha:nL st ys=some ws:=by first|exact tJ|fail):
  aU U (l.map (BO.ao P)) tl K (.move i t) bp st:=Fz hi ha hC h
theorem tO {U:List Nat}{ws:List AV}(hi:l[i]? =some ⟨d,none,.mH f ys D⟩)(hC:gM P f ws (fP st D) (fun x S'=>x=x0/\∀p∈Ys,S' p.1=p.2))(h:aU U (l.map (BO.ao P)) tl K t true st')(ha:lX st ys=some ws:=by first|exact tJ|fail)(hc:ws.all (gO D)=true:=by first|exact lC|fail)(hD:∀s∈D,(aH st.S s).isSome=true/\eQ D (st.slot s)=true:=by first|exact lC|fail)(hU:∀s∈D,s∈U:=by first|exact lC|fail)(hY:Ys.map (·.1)=D:=by exact rfl)(hx:gO D x0=true:=by first|exact lC|fail)(dp:∀p∈Ys,eQ D p.2=true:=by first|exact lC|fail)(hst:(lB Ys st).dZ d x0=st':=by first|exact tJ|fail):
  aU U (l.map (BO.ao P)) tl K (.move i t) bp st:=adK hi ha hc hD hU hC hY hx dp hst h
theorem yM {U:List Nat}(h:aU U (l.map (BO.ao P)) tl K t true st')(hi:l[i]? =some ⟨d,none,.pH D n p q⟩:=by exact rfl)(hx:ma (some U) (ox D st) ⟨d,none,.store n p q⟩=some st':=by first|exact tJ|fail):
  aU U (l.map (BO.ao P)) tl K (.move i t) bp st:=adx hi hx h
theorem yN {U:List Nat}(h:aU U (l.map (BO.ao P)) tl K t true st')(hi:l[i]? =some b:=by exact rfl)(hp:QB b=true:=by exact rfl)(hx:ma (some U) st b=some st':=by first|exact Wq|fail):
  aU U (l.map (BO.ao P)) tl K (.move i t) bp st:=Jg hi hx h
theorem yO {U:List Nat}(h:aU U (l.map (BO.ao P)) tl K t true st')(hi:l[i]? =some b:=by exact rfl)(hp:isApp b=true:=by exact rfl)(hx:ma (some U) st b=some st':=by first|exact Wq|fail):
  aU U (l.map (BO.ao P)) tl K (.move i t) bp st:=Jg hi hx h
theorem yP {U:List Nat}{l:List AO}(h:bm none (r.map (BO.ao P)) K st)(hr:l2.drop n=r:=by simp only[oX,sY];(try rfl);(first|done|fail)):
  aU U l ((l2.drop n).map (BO.ao P)) K .nil bp st:=adI hr h
theorem zc1 {t:aP}(h:aL (lift P (.seq x z)) Q st)(hb:st.sc t=some (.bool true):=by first|exact lC|fail):
  aL (lift P (.seq (.cond t x y) z)) Q st:=adE hb h
theorem zc2 {t:aP}(h:aL (lift P (.seq y z)) Q st)(hb:st.sc t=some (.bool false):=by first|exact lC|fail):
  aL (lift P (.seq (.cond t x y) z)) Q st:=adF hb h
theorem zc3 {t:aP}(h:aL (lift P x) Q st)(hb:st.sc t=some (.bool true):=by first|exact lC|fail):
  aL (lift P (.cond t x y)) Q st:=adG hb h
theorem zc4 {t:aP}(h:aL (lift P y) Q st)(hb:st.sc t=some (.bool false):=by first|exact lC|fail):
  aL (lift P (.cond t x y)) Q st:=adH hb h
theorem zc5 (h:aL (lift P (.seq x z)) Q st')(hs:st.freeze s=st':=by first|exact adM|fail):
  aL (lift P (.seq (.lz s x) z)) Q st:=Wh hs h
theorem zc6 (h:aL (lift P x) Q st')(hs:st.freeze s=st':=by first|exact adM|fail):
  aL (lift P (.lz s x)) Q st:=Wj hs h
theorem zc7 {b:Nat}(h:aL (lift P (.seq x z)) Q st')(hs:st.ly b off s e k=st':=by first|exact adN|fail):
  aL (lift P (.seq (.oz b off s e k x) z)) Q st:=adw hs h
theorem zc8 {b:Nat}(h:aL (lift P x) Q st')(hs:st.ly b off s e k=st':=by first|exact adN|fail):
  aL (lift P (.oz b off s e k x)) Q st:=Wi hs h
theorem apw {x:AV}(hC:bu P f ws (fun y=>y=x))(hr:bm U (r.map (BO.ao P)) K (st.dZ d x))(ha:nL st ys=some ws:=by first|exact tK|fail):
  bm U ((⟨d,none,.call f ys⟩::r:List BO).map (BO.ao P)) K st:=CQ ha hC hr
theorem apx {x:AV}{t:Nat}(hC:bu P f ws (fun y=>y=x))(hr:bm U (r.map (BO.ao P)) K (st.dZ d x))(hg:st.sc (.t t)=some (.bool want):=by first|exact lD|fail)(ha:nL st ys=some ws:=by first|exact tK|fail):
  bm U ((⟨d,some (t,want),.call f ys⟩::r:List BO).map (BO.ao P)) K st:=ads hg ha hC hr
theorem apy {ws:List AV}(hC:gM P f ws (fP st D) (fun x S'=>x=x0/\∀p∈Ys,S' p.1=p.2))(h:bm U (r.map (BO.ao P)) K st')(ha:lX st ys=some ws:=by first|exact tK|fail)(hc:ws.all (gO D)=true:=by first|exact lD|fail)(hD:∀s∈D,(aH st.S s).isSome=true/\eQ D (st.slot s)=true:=by first|exact lD|fail)(hU:∀s∈D,pI U s=true:=by first|exact lD|fail)(hY:Ys.map (·.1)=D:=by exact rfl)(hx:gO D x0=true:=by first|exact lD|fail)(dp:∀p∈Ys,eQ D p.2=true:=by first|exact lD|fail)(hst:(lB Ys st).dZ d x0=st':=by first|exact tK|fail):
  bm U ((⟨d,none,.mH f ys D⟩::r:List BO).map (BO.ao P)) K st:=Wn ha hc hD hU hC hY hx dp hst h
theorem apz {ws:List AV}{t:Nat}(hC:gM P f ws (fP st D) (fun x S'=>x=x0/\∀p∈Ys,S' p.1=p.2))(h:bm U (r.map (BO.ao P)) K st')(hg:kM (st.arg (.t t)) want=some true:=by first|exact lD|fail)(ha:lX st ys=some ws:=by first|exact tK|fail)(hc:ws.all (gO D)=true:=by first|exact lD|fail)(hD:∀s∈D,(aH st.S s).isSome=true/\eQ D (st.slot s)=true:=by first|exact lD|fail)(hU:∀s∈D,pI U s=true:=by first|exact lD|fail)(hY:Ys.map (·.1)=D:=by exact rfl)(hx:gO D x0=true:=by first|exact lD|fail)(dp:∀p∈Ys,eQ D p.2=true:=by first|exact lD|fail)(hst:(lB Ys st).dZ d x0=st':=by first|exact tK|fail):
  bm U ((⟨d,some (t,want),.mH f ys D⟩::r:List BO).map (BO.ao P)) K st:=adL hg ha hc hD hU hC hY hx dp hst h
theorem adQ (h:bm U (r.map (BO.ao P)) K st')(hx:ma U (ox D st) ⟨d,none,.store n p q⟩=some st':=by first|exact tK|fail):
  bm U ((⟨d,none,.pH D n p q⟩::r:List BO).map (BO.ao P)) K st:=adu hx h
theorem adR {ys:List (List AC)}(h:bm U (r.map (BO.ao P)) K st')(hx:st.arg u=some (.w (.c (.own s g))):=by exact rfl)(hs:aH st.S s=some (.row e k g es):=by exact rfl)(hy:st.rows [s] (st.arg v)=some ys:=by exact rfl)(hk:∀row∈ys,row.length=k:=by first|exact lD|fail)(hl:es.length+ys.length<=100000000:=by first|exact apv|fail)(hU:pI U s=true:=by exact rfl)(hst:(st.bR s (.row e k (g+1) (es++ys))).dZ d (.w (.c (.own s (g+1))))=st':=by first|exact tK|fail):
  bm U ((⟨d,none,.app e k u v⟩::r:List BO).map (BO.ao P)) K st:=CS hx hs hy hk hl hU hst h
theorem adS (hr:bm U (r.map (BO.ao P)) K st')(hp:QB b=true:=by exact rfl)(h:ma U st b=some st':=by first|exact Ws|fail):
  bm U ((b::r).map (BO.ao P)) K st:=bg h hr
theorem adT {U:List Nat}(h:aU U (l.map (BO.ao P)) tl K t bp st')(hi:l[i]? =some b:=by exact rfl)(hx:CU U st b bp=some st':=by first|exact tK|fail):
  aU U (l.map (BO.ao P)) tl K (.take i t) bp st:=pJ hi hx h
theorem apA {U:List Nat}{x:AV}(hC:bu P f ws (fun y=>y=x))(h:aU U (l.map (BO.ao P)) tl K t true (st.dZ d x))(hi:l[i]? =some ⟨d,none,.call f ys⟩:=by exact rfl)(ha:nL st ys=some ws:=by first|exact tK|fail):
  aU U (l.map (BO.ao P)) tl K (.move i t) bp st:=Fz hi ha hC h
theorem apB {U:List Nat}{ws:List AV}(hi:l[i]? =some ⟨d,none,.mH f ys D⟩)(hC:gM P f ws (fP st D) (fun x S'=>x=x0/\∀p∈Ys,S' p.1=p.2))(h:aU U (l.map (BO.ao P)) tl K t true st')(ha:lX st ys=some ws:=by first|exact tK|fail)(hc:ws.all (gO D)=true:=by first|exact lD|fail)(hD:∀s∈D,(aH st.S s).isSome=true/\eQ D (st.slot s)=true:=by first|exact lD|fail)(hU:∀s∈D,s∈U:=by first|exact lD|fail)(hY:Ys.map (·.1)=D:=by exact rfl)(hx:gO D x0=true:=by first|exact lD|fail)(dp:∀p∈Ys,eQ D p.2=true:=by first|exact lD|fail)(hst:(lB Ys st).dZ d x0=st':=by first|exact tK|fail):
  aU U (l.map (BO.ao P)) tl K (.move i t) bp st:=adK hi ha hc hD hU hC hY hx dp hst h
theorem adU {U:List Nat}(h:aU U (l.map (BO.ao P)) tl K t true st')(hi:l[i]? =some ⟨d,none,.pH D n p q⟩:=by exact rfl)(hx:ma (some U) (ox D st) ⟨d,none,.store n p q⟩=some st':=by first|exact tK|fail):
  aU U (l.map (BO.ao P)) tl K (.move i t) bp st:=adx hi hx h
theorem adV {U:List Nat}(h:aU U (l.map (BO.ao P)) tl K t true st')(hi:l[i]? =some b:=by exact rfl)(hp:QB b=true:=by exact rfl)(hx:ma (some U) st b=some st':=by first|exact Ws|fail):
  aU U (l.map (BO.ao P)) tl K (.move i t) bp st:=Jg hi hx h
theorem adW {U:List Nat}(h:aU U (l.map (BO.ao P)) tl K t true st')(hi:l[i]? =some b:=by exact rfl)(hp:isApp b=true:=by exact rfl)(hx:ma (some U) st b=some st':=by first|exact Ws|fail):
  aU U (l.map (BO.ao P)) tl K (.move i t) bp st:=Jg hi hx h
theorem adX {U:List Nat}{l:List AO}(h:bm none (r.map (BO.ao P)) K st)(hr:l2.drop n=r:=by simp only[oX,sY];(try rfl);(first|done|fail)):
  aU U l ((l2.drop n).map (BO.ao P)) K .nil bp st:=adI hr h
theorem adY {t:aP}(h:aL (lift P (.seq x z)) Q st)(hb:st.sc t=some (.bool true):=by first|exact lD|fail):
  aL (lift P (.seq (.cond t x y) z)) Q st:=adE hb h
theorem adZ {t:aP}(h:aL (lift P (.seq y z)) Q st)(hb:st.sc t=some (.bool false):=by first|exact lD|fail):
  aL (lift P (.seq (.cond t x y) z)) Q st:=adF hb h
theorem aea {t:aP}(h:aL (lift P x) Q st)(hb:st.sc t=some (.bool true):=by first|exact lD|fail):
  aL (lift P (.cond t x y)) Q st:=adG hb h
theorem aeb {t:aP}(h:aL (lift P y) Q st)(hb:st.sc t=some (.bool false):=by first|exact lD|fail):
  aL (lift P (.cond t x y)) Q st:=adH hb h
theorem aec (h:aL (lift P (.seq x z)) Q st')(hs:st.freeze s=st':=by first|exact adO|fail):
  aL (lift P (.seq (.lz s x) z)) Q st:=Wh hs h
theorem aed (h:aL (lift P x) Q st')(hs:st.freeze s=st':=by first|exact adO|fail):
  aL (lift P (.lz s x)) Q st:=Wj hs h
theorem aee {b:Nat}(h:aL (lift P (.seq x z)) Q st')(hs:st.ly b off s e k=st':=by first|exact adP|fail):
  aL (lift P (.seq (.oz b off s e k x) z)) Q st:=adw hs h
theorem aef {b:Nat}(h:aL (lift P x) Q st')(hs:st.ly b off s e k=st':=by first|exact adP|fail):
  aL (lift P (.oz b off s e k x)) Q st:=Wi hs h
end
theorem apC {U:Option (List Nat)}{st:St}{op:eD}{m:Bool}{ev:St->List Nat->Option AV}{x:AV}(he:bY op=some (m,ev))(h:ev st []=some x):cS U st op=some (x,st):=by
 cases op with
 |pB k y lo hi=>
  cases lo with
  |none=>
   simp only[cS];split
   ·rename_i s g hy;simp only[bY,aC,jb] at he;obtain⟨_,rfl⟩:=he;dsimp only at h;rw[hy] at h;cases h
   ·rw[he];simp only[h,wu]
  |some lo=>simp only[cS];rw[he];simp only[h,wu]
 |_=>first|(simp only[bY] at he;cases he;done)|(simp only[cS];rw[he];simp only[h,wu])
def pL (V L:List (Nat×AV))(S:List (Nat×Slot))(U:List Nat)(op:eD)(x:AV):Prop:=∃m ev,bY op=some (m,ev)/\ev ⟨V,L,S⟩ U=some x
def Wt (op:eD):Bool:=match bY op with
 |some (m,_)=>m
 |none=>false
section
variable {V L:List (Nat×AV)} {S:List (Nat×Slot)} {U:List Nat}
variable {c:AC} {cs r ys:List AC} {e g i k m:Nat} {es:List (List AC)} {kk:IntKind} {p x y:aP} {q u:Value}
theorem Mm(h:St.arg ⟨V,L,S⟩ y=some (.w (.c (.v u)))):St.sc ⟨V,L,S⟩ y=some u:=by unfold St.sc;rw[h];rfl
theorem QC{s:Nat}{x:Slot}(h:aH S s=some x):St.slot ⟨V,L,S⟩ s=x:=by unfold St.slot;rw[h];rfl
theorem Jh{off:Nat}(h:(cs.drop off).take 1=c::r):off+1<=cs.length/\(cs.drop off).take 1=[c]:=by
 have h2:=aG List.length h;simp only[dS,nf,List.length_cons] at h2;refine⟨ab,?_⟩;have:r=[]:=zV.1 ab;rw[h,this]
theorem aeg{s off n:Nat}(hs:aH S s=some (.box g cs))(hU:U.contains s=false)(hl:off+n<=cs.length)(h:(cs.drop off).take n=ys):St.cells ⟨V,L,S⟩ U n (some (.pb s g off))=some ys:=by
 have hm:s∉U:=fun hm=>by rw[List.contains_iff_mem.2 hm] at hU;cases hU
 simp only[St.cells,QC hs];rw[aj ⟨trivial,hm,hl⟩,h]
theorem aeh{s off n:Nat}{row:List AC}(hs:aH S s=some (.row e k g es))(hU:U.contains s=false)(hr:es[i]? =some row)(hl:off+n<=row.length)(h:(row.drop off).take n=ys):St.cells ⟨V,L,S⟩ U n (some (.pr s g i off))=some ys:=by
 have hm:s∉U:=fun hm=>by rw[List.contains_iff_mem.2 hm] at hU;cases hU
 simp only[St.cells,QC hs];rw[aj ⟨trivial,hm⟩,hr];dsimp only;rw[aj hl,h]
theorem aei{off n:Nat}(hl:off+n<=cs.length)(h:(cs.drop off).take n=ys):St.cells ⟨V,L,S⟩ U n (some (.pi cs off))=some ys:=by
 simp only[St.cells];rw[aj hl,h]
theorem eMv{x:AV}(h:St.arg ⟨V,L,S⟩ y=some x:=by exact rfl):pL V L S U (.mv y) x:=⟨_,_,rfl,h⟩
theorem aej{o:BinOp}{z:aP}{v:Value}(h1:St.arg ⟨V,L,S⟩ y=some (.w (.c (.v u))):=by exact rfl)(h2:St.arg ⟨V,L,S⟩ z=some (.w (.c (.v v))):=by exact rfl)(h:bt o u v=some q:=by(simp[FF]);(try rfl);(first|done|fail)):pL V L S U (.bin o y z) (.w (.c (.v q))):=
 ⟨_,_,rfl,by(try dsimp only);rw[Mm h1,Mm h2];(try dsimp only);rw[h];rfl⟩
theorem eUn{o:UnOp}(h1:St.arg ⟨V,L,S⟩ y=some (.w (.c (.v u))):=by exact rfl)(h:CE o u=some q:=by(simp[FF]);(try rfl);(first|done|fail)):pL V L S U (.un o y) (.w (.c (.v q))):=
 ⟨_,_,rfl,by(try dsimp only);rw[Mm h1];(try dsimp only);rw[h];rfl⟩
theorem aek{n:Int}(h1:St.arg ⟨V,L,S⟩ y=some (.w (.c (.sl es))):=by exact rfl)(h:(es.length:Int)=n:=by first|((simp[FF]);(try rfl);(first|done|fail))|exact rfl):pL V L S U (.len y) (.w (.c (.v (.int .i64 n)))):=
 ⟨_,_,rfl,by(try dsimp only);rw[h1];subst h;rfl⟩
theorem ael{s:Nat}{n:Int}(h1:St.arg ⟨V,L,S⟩ y=some (.w (.c (.own s g))):=by exact rfl)(hs:aH S s=some (.row e k g es):=by exact rfl)(h:(es.length:Int)=n:=by first|((simp[FF]);(try rfl);(first|done|fail))|exact rfl):pL V L S U (.len y) (.w (.c (.v (.int .i64 n)))):=
 ⟨_,_,rfl,by(try dsimp only);rw[h1];simp only[St.rows,QC hs];rw[aj ⟨trivial,kB⟩];subst h;rfl⟩
theorem aem{s off:Nat}(h1:St.arg ⟨V,L,S⟩ p=some (.pb s g off):=by exact rfl)(hs:aH S s=some (.box g cs):=by exact rfl)(hU:U.contains s=false:=by exact rfl)(h:(cs.drop off).take 1=ys:=by first|((simp[FF]);(try rfl);(first|done|fail))|exact rfl)(h2:ys=c::r:=by exact rfl):pL V L S U (.ld1 p) (.w (.c c)):=
 ⟨_,_,rfl,by(try dsimp only);rw[h1,aeg hs hU (Jh (h.trans h2)).1 (Jh (h.trans h2)).2]⟩
theorem aen{s off:Nat}{row:List AC}(h1:St.arg ⟨V,L,S⟩ p=some (.pr s g i off):=by exact rfl)(hs:aH S s=some (.row e k g es):=by exact rfl)(hU:U.contains s=false:=by exact rfl)(hr:es[i]? =some row:=by first|((simp[FF]);(try rfl);(first|done|fail))|exact rfl)(h:(row.drop off).take 1=ys:=by first|((simp[FF]);(try rfl);(first|done|fail))|exact rfl)(h2:ys=c::r:=by exact rfl):pL V L S U (.ld1 p) (.w (.c c)):=
 ⟨_,_,rfl,by(try dsimp only);rw[h1,aeh hs hU hr (Jh (h.trans h2)).1 (Jh (h.trans h2)).2]⟩
theorem aeo{off:Nat}(h1:St.arg ⟨V,L,S⟩ p=some (.pi cs off):=by exact rfl)(h:(cs.drop off).take 1=ys:=by first|((simp[FF]);(try rfl);(first|done|fail))|exact rfl)(h2:ys=c::r:=by exact rfl):pL V L S U (.ld1 p) (.w (.c c)):=
 ⟨_,_,rfl,by(try dsimp only);rw[h1,aei (Jh (h.trans h2)).1 (Jh (h.trans h2)).2]⟩
theorem aep{s off:Nat}(h1:St.arg ⟨V,L,S⟩ p=some (.pb s g off):=by exact rfl)(hs:aH S s=some (.box g cs):=by exact rfl)(hl:off+0<=cs.length:=by first|((simp[FF]);done)|omega)(h:off+k=m:=by first|((simp[FF]);(try rfl);(first|done|fail))|exact rfl):pL V L S U (.tr p k) (.pb s g m):=
 ⟨_,_,rfl,by(try dsimp only);rw[h1,aeg hs rfl hl rfl];subst h;rfl⟩
theorem aeq{s off q:Nat}{row:List AC}(h1:St.arg ⟨V,L,S⟩ p=some (.pr s g i off):=by exact rfl)(hs:aH S s=some (.row e q g es):=by exact rfl)(hr:es[i]? =some row:=by first|((simp[FF]);(try rfl);(first|done|fail))|exact rfl)(hl:off+0<=row.length:=by first|((simp[FF]);done)|omega)(h:off+k=m:=by first|((simp[FF]);(try rfl);(first|done|fail))|exact rfl):pL V L S U (.tr p k) (.pr s g i m):=
 ⟨_,_,rfl,by(try dsimp only);rw[h1,aeh hs rfl hr hl rfl];subst h;rfl⟩
theorem aer{off:Nat}(h1:St.arg ⟨V,L,S⟩ p=some (.pi cs off):=by exact rfl)(hl:off+0<=cs.length:=by first|((simp[FF]);done)|omega)(h:off+k=m:=by first|((simp[FF]);(try rfl);(first|done|fail))|exact rfl):pL V L S U (.tr p k) (.pi cs m):=
 ⟨_,_,rfl,by(try dsimp only);rw[h1,aei hl rfl];subst h;rfl⟩
theorem aes{i:aP}{n:Int}{row:List AC}(h1:St.arg ⟨V,L,S⟩ x=some (.w (.c (.sl es))):=by exact rfl)(h2:St.arg ⟨V,L,S⟩ i=some (.w (.c (.v (.int kk n)))):=by exact rfl)(hb:0<=n/\n<es.length:=by(simp[FF]);(first|done|omega))(hr:es.getD n.toNat []=row:=by first|((simp[FF]);(try rfl);(first|done|fail))|exact rfl)(hl:row.length=k:=by(simp[FF];done)):pL V L S U (.idx k x i) (.pi row 0):=
 ⟨_,_,rfl,by(try dsimp only);rw[h1,Mm h2];subst hr;simp only[St.rows,CF];rw[aj ⟨hb.1,hb.2,hl⟩]⟩
theorem aet{i:aP}{s q:Nat}{n:Int}(h1:St.arg ⟨V,L,S⟩ x=some (.w (.c (.own s g))):=by exact rfl)(h2:St.arg ⟨V,L,S⟩ i=some (.w (.c (.v (.int kk n)))):=by exact rfl)(hs:aH S s=some (.row e q g es):=by exact rfl)(hb:0<=n/\n<es.length:=by(simp[FF]);(first|done|omega))(hl:(es.getD n.toNat []).length=k:=by(simp[FF];done))(hm:n.toNat=m:=by first|((simp[FF]);(try rfl);(first|done|fail))|exact rfl):pL V L S U (.idx k x i) (.pr s g m 0):=
 ⟨_,_,rfl,by(try dsimp only);rw[h1,Mm h2];simp only[St.rows,QC hs];rw[aj ⟨trivial,kB⟩];subst hm;simp only[CF];rw[aj ⟨hb.1,hb.2,hl⟩]⟩
theorem aeu{vs:List AW}{w:AW}(h1:St.arg ⟨V,L,S⟩ x=some (.cg vs):=by exact rfl)(h:vs[i]? =some w:=by exact rfl):pL V L S U (.ext x i) (.w w):=
 ⟨_,_,rfl,by(try dsimp only);rw[h1];(try dsimp only);rw[h];rfl⟩
end
section
variable {P:Program} {d:Nat} {r:List BO} {V L:List (Nat×AV)} {S:List (Nat×Slot)} {K:St->Prop}
theorem vx {U:Option (List Nat)}{op:eD}{x:AV}(hr:bm U (r.map (BO.ao P)) K ⟨V,(d,x)::L,S⟩)(hd:(aH V d).isSome=false:=by exact rfl)(h:pL V L S [] op x:=by first|exact eMv|exact aej|exact aem|exact aep|exact aes|exact aek|exact aeo|exact aer|exact aet|exact aen|exact aeq|exact ael|exact eUn|exact aeu):
  bm U ((⟨some d,none,op⟩::r:List BO).map (BO.ao P)) K ⟨V,L,S⟩:=by
 obtain⟨m,ev,he,h⟩:=h;refine bg (st':=⟨V,(d,x)::L,S⟩) ?_ hr;simp only[ma,apC he h,wu,St.dZ,St.put,hd];rfl
theorem vy {U:List Nat}{l:List BO}{tl:List AO}{i:Nat}{t:OT}{bp:Bool}{op:eD}{x:AV}(hr:aU U (l.map (BO.ao P)) tl K t bp ⟨V,(d,x)::L,S⟩)(hi:l[i]? =some ⟨some d,none,op⟩:=by exact rfl)(hm:(Wt op && bp)=false:=by exact rfl)(hd:(aH V d).isSome=false:=by exact rfl)(h:pL V L S U op x:=by first|exact eMv|exact aej|exact aem|exact aep|exact aes|exact aek|exact aeo|exact aer|exact aet|exact aen|exact aeq|exact ael|exact eUn|exact aeu):
  aU U (l.map (BO.ao P)) tl K (.take i t) bp ⟨V,L,S⟩:=by
 obtain⟨m,ev,he,h⟩:=h;refine pJ hi (st':=⟨V,(d,x)::L,S⟩) ?_ hr
 have yQ:¬(m=true/\bp=true):=fun q=>by
  have:Wt op=m:=by unfold Wt;rw[he]
  rw[this,q.1,q.2] at hm;cases hm
 simp only[CU,he,af yQ,h,wu,St.dZ,St.put,hd];rfl
end
variable {A B:Prop}
structure Bx (p:Prop):Prop where
 out:p
theorem aJ(h:B)(g:Bx B->A:=by intro hB;(first|refine vx ?_|refine vy ?_|refine yK ?_|refine yJ ?_|refine bz ?_|refine yL ?_|refine yN ?_|refine yO ?_|refine yP ?_|refine gD ?_|refine k_reg ?_|refine yF ?_|refine sd ?_|refine vw ?_|refine Qx ?_|refine yG ?_|refine nN ?_|refine AG ?_|refine Qw ?_|refine Qz ?_|refine wV ?_|refine Jf ?_|refine zc1 ?_|refine zc2 ?_|refine zc3 ?_|refine zc4 ?_|refine zc7 ?_|refine zc8 ?_|refine zc5 ?_|refine zc6 ?_|refine yI ?_|refine yM ?_);(repeat (first|refine vx ?_|refine vy ?_|refine yK ?_|refine yJ ?_|refine bz ?_|refine yL ?_|refine yN ?_|refine yO ?_|refine yP ?_|refine gD ?_|refine k_reg ?_|refine yF ?_|refine sd ?_|refine vw ?_|refine Qx ?_|refine yG ?_|refine nN ?_|refine AG ?_|refine Qw ?_|refine Qz ?_|refine wV ?_|refine Jf ?_|refine zc1 ?_|refine zc2 ?_|refine zc3 ?_|refine zc4 ?_|refine zc7 ?_|refine zc8 ?_|refine zc5 ?_|refine zc6 ?_|refine yI ?_|refine yM ?_));exact hB.out):A:=g ⟨h⟩
theorem AK(h:B)(g:Bx B->A:=by intro hB;(first|refine vx ?_|refine vy ?_|refine adS ?_|refine adR ?_|refine bz ?_|refine adT ?_|refine adV ?_|refine adW ?_|refine adX ?_|refine gD ?_|refine k_reg ?_|refine yF ?_|refine sd ?_|refine vw ?_|refine Qx ?_|refine yG ?_|refine nN ?_|refine AG ?_|refine Qw ?_|refine Qz ?_|refine wV ?_|refine Jf ?_|refine adY ?_|refine adZ ?_|refine aea ?_|refine aeb ?_|refine aee ?_|refine aef ?_|refine aec ?_|refine aed ?_|refine adQ ?_|refine adU ?_);(repeat (first|refine vx ?_|refine vy ?_|refine adS ?_|refine adR ?_|refine bz ?_|refine adT ?_|refine adV ?_|refine adW ?_|refine adX ?_|refine gD ?_|refine k_reg ?_|refine yF ?_|refine sd ?_|refine vw ?_|refine Qx ?_|refine yG ?_|refine nN ?_|refine AG ?_|refine Qw ?_|refine Qz ?_|refine wV ?_|refine Jf ?_|refine adY ?_|refine adZ ?_|refine aea ?_|refine aeb ?_|refine aee ?_|refine aef ?_|refine aec ?_|refine aed ?_|refine adQ ?_|refine adU ?_));exact hB.out):A:=g ⟨h⟩
theorem bU{C1:Prop}(c1:C1)(h:B)(g:Bx B->C1->A:=by intro hB iH;(repeat (first|refine wZ iH ?_|refine xa iH ?_|refine tM iH ?_|refine tN iH ?_|refine xc iH ?_|refine tO rfl iH ?_|refine aJ ?_));exact hB.out):A:=g ⟨h⟩ c1
theorem oE{C1 C2:Prop}(c1:C1)(c2:C2)(h:B)(g:Bx B->C1->C2->A:=by intro hB iH pM;(repeat (first|refine wZ iH ?_|refine wZ pM ?_|refine xa iH ?_|refine xa pM ?_|refine tM iH ?_|refine tM pM ?_|refine tN iH ?_|refine tN pM ?_|refine xc iH ?_|refine xc pM ?_|refine tO rfl iH ?_|refine tO rfl pM ?_|refine aJ ?_));exact hB.out):A:=g ⟨h⟩ c1 c2
theorem FA{C1 C2 C3:Prop}(c1:C1)(c2:C2)(c3:C3)(h:B)(g:Bx B->C1->C2->C3->A:=by intro hB iH pM Ji;(repeat (first|refine wZ iH ?_|refine wZ pM ?_|refine wZ Ji ?_|refine xa iH ?_|refine xa pM ?_|refine xa Ji ?_|refine tM iH ?_|refine tM pM ?_|refine tM Ji ?_|refine tN iH ?_|refine tN pM ?_|refine tN Ji ?_|refine xc iH ?_|refine xc pM ?_|refine xc Ji ?_|refine tO rfl iH ?_|refine tO rfl pM ?_|refine tO rfl Ji ?_|refine aJ ?_));exact hB.out):A:=g ⟨h⟩ c1 c2 c3
theorem Wu{C1:Prop}(c1:C1)(h:B)(g:Bx B->C1->A:=by intro hB iH;(repeat (first|refine apw iH ?_|refine apx iH ?_|refine apy iH ?_|refine apz iH ?_|refine apA iH ?_|refine apB rfl iH ?_|refine AK ?_));exact hB.out):A:=g ⟨h⟩ c1
theorem zE(h:B)(g:Bx B->A:=by intro hB;(try dsimp only[lZ,lA]);refine jJ (by simp;try rfl) ?_;exact hB.out):A:=g ⟨h⟩
theorem jL(h:B)(g:Bx B->A:=by intro hB;(try dsimp only[lZ,lA]);refine apr (by first|(simp;done)|(simp[hl,hw,fz];try rfl)|(simp;try rfl)) ai ?_;exact hB.out):A:=g ⟨h⟩
end Ab
end Go.Proofs.YtngblilamkkikaaGreatDoor
