import Derived.Test.YtkanpepkdcmpmaaGreatDoorW1
import Derived.Lib.SliceRun
set_option maxHeartbeats 40000000
set_option maxRecDepth 100000
set_option linter.all false
namespace Go.Proofs.YtkanpepkdcmpmaaGreatDoor
namespace Ab
open Go Go.RowKit
def sI (P:Program)(t:TypeId)(n:Nat):Prop:=∀(x y:Operand) (xs ys:List Int) (w:World),xs.length=n->ys.length=n->
 ((do eqGuard .eql t x y (.agg (iv xs).toArray) (.agg (iv ys).toArray);binOp .eql t (.agg (iv xs).toArray) (.agg (iv ys).toArray)):Sem Value).run P w=.ok (.bool (decide (xs=ys))) w/\
 ((do eqGuard .neq t x y (.agg (iv xs).toArray) (.agg (iv ys).toArray);binOp .neq t (.agg (iv xs).toArray) (.agg (iv ys).toArray)):Sem Value).run P w=.ok (.bool (decide (xs≠ys))) w
def RX:AC->Option Int
 | .v (.int .i64 n)=>some n
 |_=>none
def Ho:List AC->Option (List Int)
 |[]=>some []
 |x::l=>match RX x,Ho l with
  |some n,some r=>some (n::r)
  |_,_=>none
section
variable {P:Program} {w:World}
theorem aqy {A:Nat->Prop}{S:Nat->Slot}{G:Nat->Gh}{H:Nat->Value}{x:AC}{n:Int}{u:Value}(h:RX x=some n)(hc:CR w A S G H x u):u=I n:=by
 unfold RX at h;split at h
 ·simp only[aA] at h;subst h;have h2:IR w A (.v (.int .i64 _)) u:=hc;cases h2;rfl
 ·cases h
theorem Xt {A:Nat->Prop}{S:Nat->Slot}{G:Nat->Gh}{H:Nat->Value}:∀{cs:List AC} {l:List Int} {us:List Value},Ho cs=some l->cH w A S G H cs us->us=iv l
 |[],l,us,h,hc=>by
  simp only[Ho,aA] at h;subst h;exact yb hc.1
 |x::cs,l,us,h,hc=>by
  unfold Ho at h;split at h
  case h_2=>cases h
  rename_i n r h1 h2;simp only[aA] at h;subst h
  cases us with
  |nil=>have:=hc.1;simp at this
  |cons u us=>
   have hc':cH w A S G H cs us:=⟨by have:=hc.1;simpa using this,fun j x u e1 e2=>hc.2 (j+1) x u (by simpa using e1) (by simpa using e2)⟩
   rw[Xt h2 hc',aqy h1 (hc.2 0 x u rfl rfl)];rfl
def RY (neg:Bool)(n:Nat):Option AV->Option AV->Option AV
 |some (.w (.agg cs)),some (.w (.agg ds))=>match Ho cs,Ho ds with
  |some xs,some ys=>if xs.length=n/\ys.length=n then some (.w (.c (.v (.bool (if neg then decide (xs≠ys) else decide (xs=ys)))))) else none
  |_,_=>none
 |_,_=>none
theorem aeO {o:Oper}{neg:Bool}{t t':TypeId}{n:Nat}{x x':Operand}{y y':aQ}(ho:o.op=.binOp (if neg then .neq else .eql) t x x' t')(hE:sI P t n)(hx:dO x y)(sF:dO x' y'):jU P false o (fun st _=>RY neg n (st.arg y) (st.arg y')):=by
 intro N F M w0 w st G H a U r h hr;dsimp only at hr;unfold RY at hr;split at hr
 case h_2=>cases hr
 rename_i cs ds h1 h2;split at hr
 case h_2=>cases hr
 rename_i xs ys h3 h4;split at hr
 case isFalse=>cases hr
 rename_i hl;simp only[aA] at hr;subst hr;obtain⟨us,e1,c1⟩:=h.arg hx h1;obtain⟨vs,e2,c2⟩:=h.arg sF h2;have i1:=Xt h3 c1;have i2:=Xt h4 c2;subst i1;subst i2;refine⟨_,IR.v _ rfl,fun w' _=> ?_⟩;have hq:=hE x x' xs ys w' hl.1 hl.2;unfold execOp;cases neg
 ·have h5:=hq.1;simp only[zL,py] at ho⊢;simp only[ho,e1,e2];rw[px,h5];rfl
 ·have h5:=hq.2;simp only[nE] at ho⊢;simp only[ho,e1,e2];rw[px,h5];rfl
end
theorem aqz:sI Tryz.prog 37 3:=by
 intro x y xs ys w hx hy
 match xs,ys,hx,hy with
 |[a0,a1,a2],[b0,b1,b2],_,_=>
  constructor
  ·simp only[iv,List.map];go_simp;simp[cL]
  ·simp only[iv,List.map];go_simp;simp[cL]
theorem aqA:sI Tryz.prog 39 5:=by
 intro x y xs ys w hx hy
 match xs,ys,hx,hy with
 |[a0,a1,a2,a3,a4],[b0,b1,b2,b3,b4],_,_=>
  constructor
  ·simp only[iv,List.map];go_simp;simp[cL]
  ·simp only[iv,List.map];go_simp;simp[cL]
theorem aqB:sI Tryz.prog 41 8:=by
 intro x y xs ys w hx hy
 match xs,ys,hx,hy with
 |[a0,a1,a2,a3,a4,a5,a6,a7],[b0,b1,b2,b3,b4,b5,b6,b7],_,_=>
  constructor
  ·simp only[iv,List.map];go_simp;simp[cL]
  ·simp only[iv,List.map];go_simp;simp[cL]
theorem aqC:sI Tryz.prog 76 5:=by
 intro x y xs ys w hx hy
 match xs,ys,hx,hy with
 |[a0,a1,a2,a3,a4],[b0,b1,b2,b3,b4],_,_=>
  constructor
  ·simp only[iv,List.map];go_simp;simp[cL]
  ·simp only[iv,List.map];go_simp;simp[cL]
theorem aqD:sI Tryz.prog 278 2:=by
 intro x y xs ys w hx hy
 match xs,ys,hx,hy with
 |[a0,a1],[b0,b1],_,_=>
  constructor
  ·simp only[iv,List.map];go_simp;by_cases h0:a0=b0<;>by_cases h1:a1=b1<;>simp[h0,h1]
  ·simp only[iv,List.map];go_simp;by_cases h0:a0=b0<;>by_cases h1:a1=b1<;>simp[h0,h1]
def cZ:List (Nat×Nat):=[(37,3),(39,5),(41,8),(76,5),(278,2)]
theorem Xu:∀p∈cZ,sI Tryz.prog p.1 p.2:=by
 intro p hp;simp only[cZ,cA,jL,kV] at hp
 rcases hp with rfl|rfl|rfl|rfl|rfl
 ·exact aqz
 ·exact aqA
 ·exact aqB
 ·exact aqC
 ·exact aqD
section
variable {P:Program}
variable {o:Oper} {t:TypeId} {x:Operand} {y:aQ}
theorem aqE(ho:o.op=.call { callee:=.builtin .len,args:=#[x],argTypes:=#[t] })(ht:P.underlying t=some .string)(hx:dO x y):
  jU P false o (fun st _=>match st.sc y with |some (.string s)=>some (.w (.c (.v (.int .i64 s.size))))|_=>none):=by
 intro N F M w0 w st G H a U r h hr;dsimp only at hr;split at hr
 case h_2=>cases hr
 rename_i s hs;simp only[aA] at hr;subst hr;obtain⟨e1,_⟩:=h.sc hx hs;refine⟨_,IR.v _ rfl,fun w' _=> ?_⟩;unfold execOp;simp[ho,resolve,e1,invoke,Go.builtin,Builtin.len_,lG ht,goInt]
theorem aqF(w:World)(n l h:Nat)(lo hi:Option Value)(oR:(lo=none/\l=0)\/∃k,lo=some (.int k l))(jz:(hi=none/\h=n)\/∃k,hi=some (.int k h))(h1:l<=h)(h2:h<=n):
  (Instr.sliceBounds false n n lo hi none).run P w=.ok (l,h,n) w:=by
 have e1:∀(k:IntKind) (code:BoundsCode),(Instr.sliceBound (.int k h) n code).run P w=.ok h w:=fun k code=>by rw[run_sliceBound w k h n code ab ab];simp
 have e2:∀(k:IntKind) (code:BoundsCode),(Instr.sliceBound (.int k l) h code).run P w=.ok l w:=fun k code=>by rw[run_sliceBound w k l h code ab ab];simp
 rcases oR with⟨rfl,rfl⟩|⟨k,rfl⟩<;>rcases jz with⟨rfl,rfl⟩|⟨k',rfl⟩<;>simp[Instr.sliceBounds,e1,e2]
theorem aqG{lo hi:Option Operand}{qQ hi':Option aQ}(ho:o.op=.slice t x lo hi none)(hu:P.underlying t=some .string)(hx:dO x y)(oR:KF lo qQ)(jz:KF hi hi'):
  jU P false o (fun st _=>match st.sc y with
   |some (.string s)=>match Em st qQ,xa st s.size hi' with
    |some l,some h=>if l<=h/\h<=s.size then some (.w (.c (.v (.string (s.extract l h))))) else none
    |_,_=>none
   |_=>none):=by
 intro N F M w0 w st G H a U r h hr;dsimp only at hr;split at hr
 case h_2=>cases hr
 rename_i s hs;split at hr
 case h_2=>cases hr
 rename_i l hh cD yv;split at hr
 case isFalse=>cases hr
 rename_i hb;obtain⟨h1,h2⟩:=hb;simp only[aA] at hr;subst hr;obtain⟨e1,_⟩:=h.sc hx hs;refine⟨_,IR.v _ rfl,fun w' _=> ?_⟩
 have WZ:((lo.map a.eval)=none/\l=0)\/∃k,lo.map a.eval=some (.int k l):=by
  cases lo with
  |none=>cases qQ with
   |none=>simp[Em] at cD;exact .inl ⟨rfl,cD.symm⟩
   |some=>exact oR.elim
  |some p=>cases qQ with
   |none=>exact oR.elim
   |some q=>
    obtain⟨k,e⟩:=h.bound oR cD;exact .inr ⟨k,by simp[e]⟩
 have KG:((hi.map a.eval)=none/\hh=s.size)\/∃k,hi.map a.eval=some (.int k hh):=by
  cases hi with
  |none=>cases hi' with
   |none=>simp[xa] at yv;exact .inl ⟨rfl,yv.symm⟩
   |some=>exact jz.elim
  |some p=>cases hi' with
   |none=>exact jz.elim
   |some q=>
    obtain⟨k,e⟩:=h.bound jz yv;exact .inr ⟨k,by simp[e]⟩
 unfold execOp;simp[ho,e1,Instr.sliceAt,Instr.slice,lG hu,aqF w' s.size l hh _ _ WZ KG h1 h2]
theorem aqH{t':TypeId}{k':IntKind}(ho:o.op=.convert t t' x)(hs:(P.underlying t).isSome=true)(hd:P.underlying t'=some (.int k'))(hx:dO x y):
  jU P false o (fun st _=>match st.sc y with |some (.int _ n)=>if k'.wrap n=n then some (.w (.c (.v (.int k' n)))) else none|_=>none):=by
 intro N F M w0 w st G H a U r h hr;dsimp only at hr;split at hr
 case h_2=>cases hr
 rename_i k n hn;split at hr
 case isFalse=>cases hr
 rename_i hw;simp only[aA] at hr;subst hr;obtain⟨e1,_⟩:=h.sc hx hn;refine⟨_,IR.v _ rfl,fun w' _=> ?_⟩;obtain⟨d,Ak⟩:=Rj.mp hs;unfold execOp;simp[ho,e1,convert,lG hd,lG Ak,Conv.intToInt,hw]
theorem aqI{x1 x2 x3:Operand}{y1 y2 y3:aQ}{ts:Array TypeId}(ho:o.op=.call { callee:=.builtin .max,args:=#[x1,x2,x3],argTypes:=ts })(h1:dO x1 y1)(h2:dO x2 y2)(h3:dO x3 y3):
  jU P false o (fun st _=>match st.sc y1,st.sc y2,st.sc y3 with |some (.int .i64 a),some (.int .i64 b),some (.int .i64 c)=>some (.w (.c (.v (.int .i64 (max (max a b) c)))))|_,_,_=>none):=by
 intro N F M w0 w st G H a U r h hr;dsimp only at hr;split at hr
 case h_2=>cases hr
 rename_i x y z hu hv hw;obtain⟨e1,s1⟩:=h.sc h1 hu;obtain⟨e2,s2⟩:=h.sc h2 hv;obtain⟨e3,s3⟩:=h.sc h3 hw;simp only[aA] at hr;subst hr;refine⟨_,IR.v _ rfl,fun w' _=> ?_⟩;unfold execOp;have q1:max x y=if x<y then y else x:=ab;have q2:max (max x y) z=if(if x<y then y else x)<z then z else if x<y then y else x:=ab;simp[ho,resolve,e1,e2,e3,invoke,Go.builtin,Builtin.max_,Builtin.max2,q2]
theorem aqJ(ho:o.op=.nilCheck x)(hx:dO x y):
  jU P false o (fun st _=>match st.cells [] 0 (st.arg y),st.arg y with |some _,some p=>some p|_,_=>none):=by
 intro N F M w0 w st G H a U r h hr;dsimp only at hr;split at hr
 case h_2=>cases hr
 rename_i cs p hc hp;simp only[aA] at hr;subst hr;rw[hp] at hc;obtain⟨b,off,us,e1,hlt,hU,hr,hcs,hl⟩:=h.cells (h.arg hx hp) hc;refine⟨_,h.arg hx hp,fun w' _=> ?_⟩;unfold execOp;simp[ho,e1]
end
section
variable {P:Program}
def RZ (Al neg:Bool):Option AV->Option AV
 |some (.w (.c (.v .nilIface)))=>if Al then some (.w (.c (.v (.bool (!neg))))) else none
 |some (.w (.c (.v (.iface _ _))))=>if Al then some (.w (.c (.v (.bool neg)))) else none
 |some (.w (.c (.v (.slice none 0 0))))=>if Al then none else some (.w (.c (.v (.bool (!neg)))))
 |some (.w (.c (.sl ((_::_)::_))))=>if Al then none else some (.w (.c (.v (.bool neg))))
 |_=>none
def KQ (P:Program)(t:TypeId):Operand->Option Bool
 | .const (.slice none 0 0)=>match P.underlying t with
  |some (.slice _)=>some false
  |_=>none
 | .const .nilIface=>match P.underlying t with
  |some (.interface _)=>some true
  |_=>none
 |_=>none
theorem aeP {o:Oper}{neg Al:Bool}{t t':TypeId}{x z:Operand}{y:aQ}(ho:o.op=.binOp (if neg then .neq else .eql) t x z t')(hz:KQ P t z=some Al)(hx:dO x y):jU P false o (fun st _=>RZ Al neg (st.arg y)):=by
 intro N F M w0 w st G H a U r h hr;dsimp only at hr;unfold RZ at hr;split at hr
 ·rename_i hv;split at hr
  case isFalse=>cases hr
  rename_i hi;subst hi;simp only[aA] at hr;subst hr;have hv':=h.arg hx hv;generalize hq:a.eval x=q at hv';have h3:IR w (aV M st.slot G H) (.v .nilIface) q:=hv';cases h3;unfold KQ at hz;split at hz
  ·split at hz<;>cases hz
  ·split at hz
   ·rename_i ms ht;refine⟨_,IR.v _ rfl,fun w' _=> ?_⟩;have e2:a.eval (.const .nilIface)=.nilIface:=rfl
    have hE:∀d:Nat,(Op.equalIn (d+1) t .nilIface .nilIface).run P w'=.ok true w':=fun d=>by simp[Op.equalIn,lG ht]
    unfold execOp;cases neg
    ·simp only[ho,hq,e2,eqGuard,binOp];simp[Op.equal,Op.maxDepth,hE 9999]
    ·simp only[ho,hq,e2,eqGuard,binOp];simp[Op.equal,Op.maxDepth,hE 9999]
   ·cases hz
  ·cases hz
 ·rename_i ta va hv;split at hr
  case isFalse=>cases hr
  rename_i hi;subst hi;simp only[aA] at hr;subst hr;have hv':=h.arg hx hv;generalize hq:a.eval x=q at hv';have h3:IR w (aV M st.slot G H) (.v (.iface ta va)) q:=hv';cases h3;unfold KQ at hz;split at hz
  ·split at hz<;>cases hz
  ·split at hz
   ·rename_i ms ht;refine⟨_,IR.v _ rfl,fun w' _=> ?_⟩;have e2:a.eval (.const .nilIface)=.nilIface:=rfl
    have hE:∀d:Nat,(Op.equalIn (d+1) t (.iface ta va) .nilIface).run P w'=.ok false w':=fun d=>by simp[Op.equalIn,lG ht]
    unfold execOp;cases neg
    ·simp only[ho,hq,e2,eqGuard,binOp];simp[Op.equal,Op.maxDepth,hE 9999]
    ·simp only[ho,hq,e2,eqGuard,binOp];simp[Op.equal,Op.maxDepth,hE 9999]
   ·cases hz
  ·cases hz
 ·rename_i hv;split at hr
  case isTrue=>cases hr
  rename_i hi;simp only[aA] at hr;subst hr;have hv':=h.arg hx hv;generalize hq:a.eval x=q at hv';have h3:IR w (aV M st.slot G H) (.v (.slice none 0 0)) q:=hv';cases h3;unfold KQ at hz;split at hz
  ·split at hz
   ·rename_i e ht;refine⟨_,IR.v _ rfl,fun w' _=> ?_⟩;have e2:a.eval (.const (.slice none 0 0))=.slice none 0 0:=rfl
    have hE:∀d:Nat,(Op.equalIn (d+1) t (.slice none 0 0) (.slice none 0 0)).run P w'=.ok true w':=fun d=>Lib.run_equalIn_slice_nil w' d t e _ _ _ _ _ ht
    unfold execOp;cases neg
    ·simp only[ho,hq,e2,eqGuard,binOp];simp[Op.equal,Op.maxDepth,hE 9999]
    ·simp only[ho,hq,e2,eqGuard,binOp];simp[Op.equal,Op.maxDepth,hE 9999]
   ·cases hz
  ·split at hz
   ·cases hz;exact absurd rfl hi
   ·cases hz
  ·cases hz
 ·rename_i c row es hv;split at hr
  case isTrue=>cases hr
  rename_i hi;simp only[aA] at hr;subst hr;have hv':=h.arg hx hv;generalize hq:a.eval x=q at hv';have h3:IR w (aV M st.slot G H) (.sl ((c::row)::es)) q:=hv'
  cases h3 with
  |sl k _ ad cp u hn hm hk hc hl=>
   obtain⟨b,o2,rfl,_⟩:=hl 0 (c::row) 0 rfl ai;unfold KQ at hz;split at hz
   ·split at hz
    ·rename_i e ht;refine⟨_,IR.v _ rfl,fun w' _=> ?_⟩;have e2:a.eval (.const (.slice none 0 0))=.slice none 0 0:=rfl
     have hE:∀d:Nat,(Op.equalIn (d+1) t (.slice (some ⟨b,o2,none⟩) (es.length+1) cp) (.slice none 0 0)).run P w'=.ok false w':=fun d=>Lib.run_equalIn_slice_nil w' d t e _ _ _ _ _ ht
     unfold execOp;cases neg
     ·simp only[ho,hq,e2,eqGuard,binOp];simp[Op.equal,Op.maxDepth,hE 9999]
     ·simp only[ho,hq,e2,eqGuard,binOp];simp[Op.equal,Op.maxDepth,hE 9999]
    ·cases hz
   ·split at hz
    ·cases hz;exact absurd rfl hi
    ·cases hz
   ·cases hz
 ·cases hr
end
section
variable {P:Program}
variable {e t:TypeId} {o:Oper} {x:Operand}
theorem aqK{U:Option (List Nat)}{k s:Nat}{it:TypeInfo}{zv:Value}{za:List AC}{q:aQ}(ho:o.op=.makeSlice t x x)(hu:P.underlying t=some (.slice e))(hi:P.info? e=some it)(hz:it.zero=some zv)(hs:it.size=k)(aX:0<k)(qU:zv.cells.size=k)(kC:it.bytes<=1000)
  (h3:En zv.cells.toList=some za) (hx:dO x q):
  oT P U o (fun st X=>∃n:Nat,st.sc q=some (.int .i64 n)/\n<=1000000/\(dx k n za).all inl=true/\(aJ st.S s).isSome=true/\X (.w (.c (.own s ((st.slot s).gen+1)))) (st.cr s (.row e k ((st.slot s).gen+1) (rowsOf k n (dx k n za))))):=by
 intro N F M w0 w st G H a X hR hsm K Q hK;obtain⟨n,e1,e2,e3,bF,hX⟩:=hsm;obtain⟨aI,-⟩:=hR.sc hx e1
 have hrun:=run_make (P:=P) w t e it zv hu hi hz .i64 .i64 (n:Int) (n:Int) ab ab (by
  have:it.bytes*n<=1000*1000000:=og kC e2;have:((it.bytes*n:Nat):Int)<=281474976710656:=ab
  rwa[Int.natCast_mul] at this) ab
 simp only[gF,hs] at hrun;have hcs:cH w (aV M st.slot G H) st.slot G H (dx k n za) (madeCells zv.cells (n*k)).toList:=Xh (Xe h3) qU aX
 have hl:(dx k n za).length=n*k:=by simp[dx]
 have how:(w.alloc (.cells (madeCells zv.cells (n*k)) e)).ownsRow 0 e k (.slice (some ⟨w.heap.size,0,none⟩) n n) n (madeCells zv.cells (n*k)).toList:=by
  have:=World.ownsRow_lit (base:=w.heap.size) (e:=e) (size:=k) w (madeCells zv.cells (n*k)) n ax (by simp only[maxLen];omega) (by simp[madeCells]);exact(by simpa using this:(w.alloc (.cells (madeCells zv.cells (n*k)) e)).ownsRow w.heap.size e k _ n _).mono (BV _)
 obtain⟨bQ,hst⟩:=hR.newRow (w':=w.alloc (.cells (madeCells zv.cells (n*k)) e)) s bF (e:=e) (k:=k) (es:=rowsOf k n (dx k n za)) (by simp[rowsOf]) how (.inl (aeq w _ _)) (fun b hb=> .inr (by simp[Value.ownBlock] at hb;omega)) (fun w2 A2 hm=>(RN hl hcs e3).map hm);have hx:=hK _ _ _ _ (.slice (some ⟨w.heap.size,0,none⟩) n n) _ hX bQ (hst U (.inr fun b hlt=>alloc_old w _ hlt)) ⟨rfl,by rw[St.mX,aj ⟨rfl,bF⟩];exact cP _,fun _ _ _ _=>ai⟩;unfold Oper.wp execOp;simp only[ho,px,aI,hrun,rW,tD];exact hx
theorem aqL{y:aQ}(ho:o.op=.call { callee:=.builtin .len,args:=#[x],argTypes:=#[t] })(ht:P.underlying t=some (.slice e))(hx:dO x y):
  jU P false o (fun st _=>match st.rows [] (st.arg y) with |some es=>some (.w (.c (.v (.int .i64 es.length))))|none=>none):=by
 intro N F M w0 w st G H a U r h hr;dsimp only at hr;split at hr
 case h_2=>cases hr
 rename_i es hu;simp only[aA] at hr;subst hr;obtain⟨ad,c,e1,_,_⟩:=h.rows hx hu;refine⟨_,IR.v _ rfl,fun w' _=> ?_⟩;unfold execOp;simp[ho,resolve,e1,invoke,Go.builtin,Builtin.len_,lG ht,goInt]
end
variable {P:Program} {o:Oper} {t:TypeId} {x:Operand}
inductive ft where
 |mv (x:aQ)
 |Hu (s e k:Nat)
 |bin (op:BinOp) (x y:aQ)
 |un (op:UnOp) (x:aQ)
 |pick (c x y:aQ)
 |len (x:aQ)
 |mm (mx:Bool) (x y:aQ)
 |ld1 (p:aQ)
 |Ef (n:Nat) (p:aQ)
 |uX (p:aQ) (off:Nat)
 |idx (k:Nat) (x i:aQ)
 |Eg (n k:Nat) (p i:aQ)
 |qO (k:Nat) (x:aQ) (lo hi:Option aQ)
 |ext (x:aQ) (i:Nat)
 |Eh (x i:aQ)
 |eqs (neg:Bool) (n:Nat) (x y:aQ)
 |Ei (za:List AC) (qs:List (Nat×Nat×aQ))
 |box (s:Nat) (x:aQ)
 |alloc (s:Nat) (za:List AC)
 |vh (k n:Nat) (za:List AC) (qs:List (Nat×Nat×aQ))
 |Am (s e k n:Nat) (za:List AC) (qs:List (Nat×Nat×aQ))
 |app (e k:Nat) (x y:aQ)
 |call (f:FuncId) (ys:List aQ)
 |nM (f:FuncId) (ys:List aQ) (D:List Nat)
 |store (n:Nat) (p x:aQ)
 |Er (k:Nat) (za:List AC) (x:aQ)
 |Co (x:aQ)
 |Es (Al neg:Bool) (x:aQ)
 |Hy (x:aQ) (lo hi:Option aQ)
 |HK (k:IntKind) (x:aQ)
 |Cp (x:aQ)
 |HQ (x y z:aQ)
 |Ia (s e k:Nat) (za:List AC) (x:aQ)
 |qY (D:List Nat) (n:Nat) (p x:aQ)
variable {op:ft}
def cC:ft->Option (Bool×(St->List Nat->Option AV))
 | .mv x=>some (false,fun st _=>st.arg x)
 | .bin op x y=>some (false,fun st _=>match st.sc x,st.sc y with |some u,some v=>(aZ op u v).map fun r=> .w (.c (.v r))|_,_=>none)
 | .un op x=>some (false,fun st _=>match st.sc x with |some u=>(Ej op u).map fun r=> .w (.c (.v r))|_=>none)
 | .pick c x y=>some (false,fun st _=>match st.sc c with |some (.bool true)=>st.arg x|some (.bool false)=>st.arg y|_=>none)
 | .len x=>some (false,fun st _=>match st.rows [] (st.arg x) with |some es=>some (.w (.c (.v (.int .i64 es.length))))|none=>none)
 | .mm mx x y=>some (false,fun st _=>match st.sc x,st.sc y with |some u,some v=>(GO mx u v).map fun r=> .w (.c (.v r))|_,_=>none)
 | .ld1 p=>some (true,fun st U=>match st.cells U 1 (st.arg p) with |some (c::_)=>some (.w (.c c))|_=>none)
 | .Ef n p=>some (true,fun st U=>match st.cells U n (st.arg p) with |some cs=>some (.w (.agg cs))|_=>none)
 | .uX p off=>some (false,fun st _=>match st.cells [] 0 (st.arg p),st.arg p with |some _,some q=>some (q.shift off)|_,_=>none)
 | .idx k x i=>some (false,fun st _=>Ek k (st.rows [] (st.arg x)) (st.arg x) (st.sc i))
 | .Eg n k p i=>some (false,fun st _=>RF n k (st.cells [] 0 (st.arg p)) (st.arg p) (st.sc i))
 | .qO k x lo hi=>some (false,fun st _=>match st.arg x with
   |some (.w (.c (.sl es)))=>match Em st lo,xa st es.length hi with
    |some l,some h=>if l<=h/\h<=es.length/\∀row∈es,row.length=k then some (.w (.c (.sl ((es.take h).drop l)))) else none
    |_,_=>none
   |_=>none)
 | .ext x i=>some (false,fun st _=>match st.arg x with |some (.bP vs)=>(vs[i]?).map .w|_=>none)
 | .Eh x i=>some (false,fun st _=>match st.sc x,st.sc i with |some (.string s),some (.int _ n)=>if h:0<=n/\n.toNat<s.size then some (.w (.c (.v (.int .u8 (s.get n.toNat h.2).toNat)))) else none|_,_=>none)
 | .eqs neg n x y=>some (false,fun st _=>RY neg n (st.arg x) (st.arg y))
 | .Ei za qs=>some (false,fun st _=>match qR st qs with |some r=>(nL za r).map fun cs=> .w (.agg cs)|none=>none)
 | .Es Al neg x=>some (false,fun st _=>RZ Al neg (st.arg x))
 | .Co x=>some (false,fun st _=>match st.sc x with |some (.string s)=>some (.w (.c (.v (.int .i64 s.size))))|_=>none)
 | .Hy x lo hi=>some (false,fun st _=>match st.sc x with
   |some (.string s)=>match Em st lo,xa st s.size hi with
    |some l,some h=>if l<=h/\h<=s.size then some (.w (.c (.v (.string (s.extract l h))))) else none
    |_,_=>none
   |_=>none)
 | .HK k x=>some (false,fun st _=>match st.sc x with |some (.int _ n)=>if k.wrap n=n then some (.w (.c (.v (.int k n)))) else none|_=>none)
 | .Cp p=>some (false,fun st _=>match st.cells [] 0 (st.arg p),st.arg p with |some _,some q=>some q|_,_=>none)
 | .HQ x y z=>some (false,fun st _=>match st.sc x,st.sc y,st.sc z with |some (.int .i64 a),some (.int .i64 b),some (.int .i64 c)=>some (.w (.c (.v (.int .i64 (max (max a b) c)))))|_,_,_=>none)
 |_=>none
def KR (ev:St->List Nat->Option AV):GX:=fun st X=>∃x,ev st []=some x/\X x st
def aqM (x:aQ)(hi:Option aQ):GX:=fun st X=>∃s g e k es h,st.arg x=some (.w (.c (.own s g)))/\aJ st.S s=some (.row e k g es)/\xa st es.length hi=some h/\h<=es.length/\X (.w (.c (.own s (g+1)))) (st.cr s (.row e k (g+1) (es.take h)))
def tN (P:Program)(U:Option (List Nat)):ft->GX
 | .Hu s e k=>fun st X=>(aJ st.S s).isSome=true/\X (.w (.c (.own s ((st.slot s).gen+1)))) (st.cr s (.row e k ((st.slot s).gen+1) []))
 | .box s x=>fun st X=>∃xw,st.arg x=some (.w xw)/\(aJ st.S s).isSome=true/\X (.pb s ((st.slot s).gen+1) 0) (st.cr s (.box ((st.slot s).gen+1) xw.cells))
 | .alloc s za=>fun st X=>(aJ st.S s).isSome=true/\X (.pb s ((st.slot s).gen+1) 0) (st.cr s (.box ((st.slot s).gen+1) za))
 | .vh k n za qs=>fun st X=>∃pr cs,qR st qs=some pr/\nL (dx k n za) pr=some cs/\cs.all inl=true/\X (.w (.c (.sl (rowsOf k n cs)))) st
 | .Am s e k n za qs=>fun st X=>∃pr cs,qR st qs=some pr/\nL (dx k n za) pr=some cs/\cs.all inl=true/\(aJ st.S s).isSome=true/\X (.w (.c (.own s ((st.slot s).gen+1)))) (st.cr s (.row e k ((st.slot s).gen+1) (rowsOf k n cs)))
 | .app e k x y=>fun st X=>∃s g es ys,st.arg x=some (.w (.c (.own s g)))/\aJ st.S s=some (.row e k g es)/\st.rows [s] (st.arg y)=some ys/\(∀row∈ys,row.length=k)/\es.length+ys.length<=100000000/\yt U s/\X (.w (.c (.own s (g+1)))) (st.cr s (.row e k (g+1) (es++ys)))
 | .call f ys=>fun st X=>∃ws R,oU st ys=some ws/\bj P f ws R/\∀r,R r->X r st
 | .nM f ys D=>aeG P U f ys D
 | .store n p x=>fun st X=>∃xw st',st.arg x=some (.w xw)/\xw.cells.length=n/\st.store xw.cells (st.arg p)=some st'/\(∀s,NN (st.arg p)=some s->yt U s)/\X .u st'
 | .qY D n p x=>fun st0 X=>(fun(st:St) (X:AV->St->Prop)=>∃xw st',st.arg x=some (.w xw)/\xw.cells.length=n/\st.store xw.cells (st.arg p)=some st'/\(∀s,NN (st.arg p)=some s->yt U s)/\X .u st') (pJ D st0) X
 | .Er k za x=>fun st X=>∃n:Nat,st.sc x=some (.int .i64 n)/\n<=1000000/\(dx k n za).all inl=true/\X (.w (.c (.sl (rowsOf k n (dx k n za))))) st
 | .Ia s e k za x=>fun st X=>∃n:Nat,st.sc x=some (.int .i64 n)/\n<=1000000/\(dx k n za).all inl=true/\(aJ st.S s).isSome=true/\X (.w (.c (.own s ((st.slot s).gen+1)))) (st.cr s (.row e k ((st.slot s).gen+1) (rowsOf k n (dx k n za))))
 | .qO k x none hi=>fun st X=>match st.arg x with
   |some (.w (.c (.own _ _)))=>aqM x hi st X
   |_=>KR (fun st _=>match st.arg x with
    |some (.w (.c (.sl es)))=>match Em st none,xa st es.length hi with
     |some l,some h=>if l<=h/\h<=es.length/\∀row∈es,row.length=k then some (.w (.c (.sl ((es.take h).drop l)))) else none
     |_,_=>none
    |_=>none) st X
 |op=>match cC op with
  |some (_,ev)=>KR ev
  |none=>fun _ _=>False
def mk (P:Program)(d:Option Nat)(g:Option (Nat×Bool))(op:ft):AO:=⟨d,g,fun U=>tN P U op,cC op⟩
def eo:Operand->Option aQ
 | .tmp t=>some (.t t)
 | .const v=>match v with
  | .slice none 0 0=>some (.k (.c (.sl [])))
  |v=>if yq v then some (.k (.c (.v v))) else none
 |_=>none
theorem dL{y:aQ}(h:eo x=some y):dO x y:=by
 cases x with
 |tmp t=>simp only[eo,aA] at h;subst h;rfl
 |const v=>
  simp only[eo] at h;split at h
  ·simp only[aA] at h;subst h;rfl
  ·split at h
   ·rename_i hs;simp only[aA] at h;subst h;exact⟨rfl,hs⟩
   ·cases h
 |global g=>cases h
 |func f=>cases h
def Et:Option Operand->Option (Option aQ)
 |none=>some none
 |some x=>(eo x).map some
theorem NW{x:Option Operand}{y:Option aQ}(h:Et x=some y):KF x y:=by
 cases x with
 |none=>simp only[Et,aA] at h;subst h;trivial
 |some x=>
  simp only[Et,bU] at h;obtain⟨z,hz,rfl⟩:=h;exact dL hz
def NY:List Operand->Option (List aQ)
 |[]=>some []
 |x::l=>match eo x,NY l with
  |some y,some r=>some (y::r)
  |_,_=>none
theorem Sa:∀{xs:List Operand} {ys:List aQ},NY xs=some ys->KJ xs ys
 |[],ys,h=>by simp only[NY,aA] at h;subst h;trivial
 |x::xs,ys,h=>by
  unfold NY at h;split at h
  ·rename_i y r h1 h2;simp only[aA] at h;subst h;exact⟨dL h1,Sa h2⟩
  ·cases h
def KS (pl:Nat->Option (Nat×Nat)):List (Nat×Operand)->Option (List (Nat×Nat×aQ))
 |[]=>some []
 |(i,x)::l=>match pl i,eo x,KS pl l with
  |some (off,size),some y,some r=>some ((off,size,y)::r)
  |_,_,_=>none
theorem Sb {pl:Nat->Option (Nat×Nat)}:∀{xs:List (Nat×Operand)} {ys:List (Nat×Nat×aQ)},KS pl xs=some ys->GV pl xs ys
 |[],ys,h=>by simp only[KS,aA] at h;subst h;trivial
 |(i,x)::xs,ys,h=>by
  unfold KS at h;split at h
  ·rename_i off size y r h0 h1 h2;simp only[aA] at h;subst h;exact⟨h0,dL h1,Sb h2⟩
  ·cases h
def sz (P:Program)(t:TypeId):Option Nat:=(P.info? t).map (·.size)
def elemOf (P:Program)(t:TypeId):Option TypeId:=match P.underlying t with
 |some (.slice e)=>some e
 |_=>none
theorem Eu{e:TypeId}(h:elemOf P t=some e):P.underlying t=some (.slice e):=by
 unfold elemOf at h;split at h
 ·rename_i hu;simp only[aA] at h;subst h;exact hu
 ·cases h
def sJ (P:Program)(o:Oper)(op:ft):Prop:=(∀U,oT P U o (tN P U op))/\∀m e,cC op=some (m,e)->jU P m o e
theorem jZ{m:Bool}{ev:St->List Nat->Option AV}(he:cC op=some (m,ev))(hs:∀U,tN P U op=KR ev)(h:jU P m o ev):sJ P o op:=
 ⟨fun U=>by rw[hs U];exact aew h,fun m' e' h'=>by rw[he] at h';cases h';exact h⟩
theorem vm(he:cC op=none)(h:∀U,oT P U o (tN P U op)):sJ P o op:=⟨h,fun m e h'=>by rw[he] at h';cases h'⟩
structure ij where
 base:Nat
 owns:List Nat
 Xv:List (Nat×List Nat)
 mC:List (Nat×List Nat)
 eqs:List (Nat×Nat)
 aeQ:List (Nat×List Nat)
 Xw:List (Nat×List (Nat×Nat×Nat×Nat×Nat))
def aqN:Option (List Nat)->Bool
 |some []=>true
 |_=>false
def Sc (P:Program)(owns:ij)(dst:Option Nat)(ty:TypeId)(x:Operand):Option ft:=match dst with
 |some d=>if owns.owns.contains d then match x with
   | .const (.slice none 0 0)=>match elemOf P ty with
    |some e=>(sz P e).map fun k=> .Hu (owns.base+d) e k
    |none=>none
   |_=>(eo x).map .mv
  else match aqN (aJ owns.aeQ d) with
   |true=>match x with
    | .const (.slice none 0 0)=>some (.mv (.k (.c (.v (.slice none 0 0)))))
    |_=>(eo x).map .mv
   |false=>(eo x).map .mv
 |none=>none
def Xx (P:Program)(t:TypeId)(x:Operand):Option ft:=match P.underlying t,eo x with
 |some d,some y=>if d.isRow then(sz P t).map fun n=> .Ef n y else some (.ld1 y)
 |_,_=>none
def aqO (owns:ij):Operand->List Nat
 | .tmp i=>(aJ owns.mC (1000000+i)).getD []
 |_=>[]
def Xy (P:Program)(owns:ij)(t:TypeId)(x z:Operand):Option ft:=match sz P t,eo x,eo z with
 |some n,some y,some q=>match aqO owns x with
  |[]=>some (.store n y q)
  |s::r=>some (.qY (s::r) n y q)
 |_,_,_=>none
def Xz (P:Program)(t:TypeId)(x:Operand)(f:Nat):Option ft:=match P.underlying t,eo x with
 |some (.struct fs),some y=>match fs[f]? with
  |some fd=>match sz P fd.type with
   |some z=>if z≠0 then some (.uX y fd.offset) else none
   |none=>none
  |none=>none
 |_,_=>none
def XA (P:Program)(t:TypeId)(x z:Operand):Option ft:=match P.underlying t,eo x,eo z with
 |some (.slice e),some y,some q=>match sz P e with
  |some k=>if 0<k then some (.idx k y q) else none
  |none=>none
 |some (.array n e),some y,some q=>(sz P e).map fun k=> .Eg n k y q
 |_,_,_=>none
def isStr (P:Program)(t:TypeId):Bool:=match P.underlying t with
 |some .string=>true
 |_=>false
theorem aeR(h:isStr P t=true):P.underlying t=some .string:=by
 unfold isStr at h;split at h
 ·assumption
 ·cases h
def XB (P:Program)(t:TypeId)(x:Operand)(lo hi mx:Option Operand):Option ft:=match isStr P t with
 |true=>match mx,eo x,Et lo,Et hi with
  |none,some y,some qQ,some hi'=>some (.Hy y qQ hi')
  |_,_,_,_=>none
 |false=>match mx,elemOf P t,eo x,Et lo,Et hi with
  |none,some e,some y,some qQ,some hi'=>(sz P e).map fun k=> .qO k y qQ hi'
  |_,_,_,_,_=>none
def aeS (P:Program)(t t':TypeId)(x:Operand):Option ft:=match P.underlying t,P.underlying t',eo x with
 |some _,some (.int k),some y=>some (.HK k y)
 |_,_,_=>none
def aeT (owns:ij)(dst:Option Nat):List Nat:=match dst with
 |some d=>(aJ owns.aeQ d).getD []
 |none=>[]
def XC (P:Program)(owns:ij)(dst:Option Nat)(t:TypeId)(ps:Array (Nat×Operand)):Option ft:=match placesOf P t,zeroOf P t with
 |some pl,some z=>match Ci (aeT owns dst) 0 z,KS pl ps.toList with
  |some za,some qs=>some (.Ei za qs)
  |_,_=>none
 |_,_=>none
def XD (P:Program)(owns:ij)(dst:Option Nat)(t:TypeId)(n:Nat)(ps:Array (Nat×Operand)):Option ft:=match elemOf P t with
 |some e=>match sz P e,zeroOf P e with
  |some k,some z=>match En z,KS (fun i=>some (i*k,k)) ps.toList with
   |some za,some qs=>if 0<k/\z.length=k/\n*k<=16777216 then match dst with
     |some d=>if owns.owns.contains d then some (.Am (owns.base+d) e k n za qs) else some (.vh k n za qs)
     |none=>none
    else none
   |_,_=>none
  |_,_=>none
 |none=>none
def XE:Operand->Operand->Bool
 | .tmp a,.tmp b=>a==b
 | .const (.int .i64 n),.const (.int .i64 m)=>n==m
 |_,_=>false
theorem aqP{y:Operand}(h:XE x y=true):x=y:=by
 unfold XE at h;split at h
 ·simp at h;rw[h]
 ·simp at h;rw[h]
 ·cases h
def XF (P:Program)(owns:ij)(dst:Option Nat)(t:TypeId)(x:Operand):Option ft:=match elemOf P t,eo x with
 |some e,some q=>match P.info? e with
  |some it=>match it.zero with
   |some zv=>if zv.cells.size=it.size/\0<it.size/\it.bytes<=1000 then match En zv.cells.toList,dst with
    |some za,some d=>if owns.owns.contains d then some (.Ia (owns.base+d) e it.size za q) else some (.Er it.size za q)
    |_,_=>none else none
   |none=>none
  |none=>none
 |_,_=>none
def XG (P:Program)(x z:Operand)(t t':TypeId):Option ft:=if t=t' then match elemOf P t,eo x,eo z with
 |some e,some y,some q=>match P.info? e with
  |some it=>match it.zero with
   |some zv=>if zv.cells.size=it.size/\0<it.size/\it.bytes<=1000 then some (.app e it.size y q) else none
   |none=>none
  |none=>none
 |_,_,_=>none
 else none
def aqQ (owns:ij)(dst:Option Nat)(f:FuncId):Option (List Nat):=match dst with
 |some d=>match aJ owns.Xv (1000000+d) with
  |some D=>some D
  |none=>aJ owns.Xv f
 |none=>aJ owns.Xv f
def XH (P:Program)(owns:ij)(dst:Option Nat)(c:Call):Option ft:=match c.callee with
 | .value (.func f)=>match P.funcs[f]? with
  |some fn=>if(fn.name== "runtime.NumGoroutine")=false/\fn.body.isNone=false then(NY c.args.toList).map fun ys=>match aqQ owns dst f with
    |some []=> .call f ys
    |some D=> .nM f ys D
    |none=> .call f ys
   else none
  |none=>none
 | .builtin .len=>match c.args.toList,c.argTypes.toList with
  |[x],[t]=>match isStr P t with
   |true=>(eo x).map .Co
   |false=>match elemOf P t,eo x with
    |some _,some y=>some (.len y)
    |_,_=>none
  |_,_=>none
 | .builtin .append=>match c.args.toList,c.argTypes.toList with
  |[x,z],[t,t']=>XG P x z t t'
  |_,_=>none
 | .builtin .max=>match c.args.toList with
  |[x,z]=>match eo x,eo z with
   |some y,some q=>some (.mm true y q)
   |_,_=>none
  |[x,z,t]=>match eo x,eo z,eo t with
   |some y,some q,some r=>some (.HQ y q r)
   |_,_,_=>none
  |_=>none
 | .builtin .min=>match c.args.toList with
  |[x,z]=>match eo x,eo z with
   |some y,some q=>some (.mm false y q)
   |_,_=>none
  |_=>none
 |_=>none
def Sd (P:Program)(owns:ij)(o:Oper):Option ft:=match o.op with
 | .move x=>Sc P owns o.dst o.type x
 | .assign x=>Sc P owns o.dst o.type x
 | .binOp op t x y _=>match eo x,eo y with
  |some a,some b=>match op,aJ owns.eqs t,KQ P t y with
   | .eql,some n,_=>some (.eqs false n a b)
   | .neq,some n,_=>some (.eqs true n a b)
   | .eql,none,some i=>some (.Es i false a)
   | .neq,none,some i=>some (.Es i true a)
   |_,_,_=>some (.bin op a b)
  |_,_=>none
 | .unOp op _ x=>(eo x).map fun y=> .un op y
 | .pick c x y=>match eo c,eo x,eo y with
  |some a,some b,some d=>some (.pick a b d)
  |_,_,_=>none
 | .load t x=>Xx P t x
 | .store t x z=>Xy P owns t x z
 | .fieldAddr t x f=>Xz P t x f
 | .indexAddr t x z=>XA P t x z
 | .slice t x lo hi mx=>XB P t x lo hi mx
 | .extract x i=>(eo x).map fun y=> .ext y i
 | .index t x z=>match P.underlying t,eo x,eo z with
  |some .string,some y,some q=>some (.Eh y q)
  |_,_,_=>none
 | .build t ps=>XC P owns o.dst t ps
 | .buildSlice t n ps=>XD P owns o.dst t n ps
 | .box _ x=>match o.dst,eo x with
  |some d,some y=>some (.box (owns.base+d) y)
  |_,_=>none
 | .alloc t=>match o.dst,zeroOf P t with
  |some d,some z=>(Ci (aeT owns (some d)) 0 z).map fun za=> .alloc (owns.base+d) za
  |_,_=>none
 | .call c=>XH P owns o.dst c
 | .makeSlice t x y=>if XE x y=true then XF P owns o.dst t x else none
 | .convert t t' x=>aeS P t t' x
 | .nilCheck x=>(eo x).map .Cp
 |_=>none
section
variable {P:Program} {owns:ij} {o:Oper} {op:ft}
variable {dst:Option Nat} {ps:Array (Nat×Operand)} {t:TypeId} {x z:Operand}
theorem aeU(ho:o.op=.move x\/o.op=.assign x)(h:Sc P owns o.dst o.type x=some op):sJ P o op:=by
 have mv:(eo x).map ft.mv=some op->sJ P o op:=fun h=>by
  rw[bU] at h;obtain⟨y,hy,rfl⟩:=h;exact jZ rfl (fun _=>rfl) (aer ho (dL hy))
 unfold Sc at h;split at h
 case h_2=>cases h
 split at h
 ·split at h
  ·split at h
   case h_2=>cases h
   rw[bU] at h;obtain⟨k,hk,rfl⟩:=h;exact vm rfl (fun U=>aqe (Or.symm ho))
  ·exact mv h
 ·split at h
  ·split at h
   ·simp only[aA] at h;subst h;exact jZ rfl (fun _=>rfl) (aer ho ⟨rfl,rfl⟩)
   ·exact mv h
  ·exact mv h
theorem aqR(ho:o.op=.load t x)(h:Xx P t x=some op):sJ P o op:=by
 unfold Xx at h;split at h
 case h_2=>cases h
 rename_i d y hd hy;split at h
 ·rename_i hr;rw[bU] at h;obtain⟨n,hn,rfl⟩:=h;exact jZ rfl (fun _=>rfl) (apJ ho hd hr hn (dL hy))
 ·rename_i hr;simp only[aA] at h;subst h;exact jZ rfl (fun _=>rfl) (apI ho hd (by simpa using hr) (dL hy))
theorem aqS(ho:o.op=.store t x z)(h:Xy P owns t x z=some op):sJ P o op:=by
 unfold Xy at h;split at h
 case h_2=>cases h
 rename_i n y q hn hy hq;split at h
 ·simp only[aA] at h;subst h;exact vm rfl (fun U=>aey ho hn (dL hy) (dL hq))
 ·simp only[aA] at h;subst h;exact vm rfl (fun U=>aqr _ (aey ho hn (dL hy) (dL hq)))
theorem aqT{f:Nat}(ho:o.op=.fieldAddr t x f)(h:Xz P t x f=some op):sJ P o op:=by
 unfold Xz at h;split at h
 case h_2=>cases h
 rename_i fs y hu hy;split at h
 case h_2=>cases h
 rename_i fd hf;split at h
 case h_2=>cases h
 rename_i z hz;split at h
 case isFalse=>cases h
 rename_i fk;simp only[aA] at h;subst h;exact jZ rfl (fun _=>rfl) (apK ho hu hf hz fk (dL hy))
theorem aqU(ho:o.op=.indexAddr t x z)(h:XA P t x z=some op):sJ P o op:=by
 unfold XA at h;split at h
 ·rename_i e y q hu hy hq;split at h
  case h_2=>cases h
  rename_i k hk;split at h
  case isFalse=>cases h
  rename_i aX;simp only[aA] at h;subst h;exact jZ rfl (fun _=>rfl) (apL ho hu hk aX (dL hy) (dL hq))
 ·rename_i n e y q hu hy hq;rw[bU] at h;obtain⟨k,hk,rfl⟩:=h;exact jZ rfl (fun _=>rfl) (apN ho hu hk (dL hy) (dL hq))
 ·cases h
theorem aqV{lo hi mx:Option Operand}(ho:o.op=.slice t x lo hi mx)(h:XB P t x lo hi mx=some op):sJ P o op:=by
 unfold XB at h;split at h
 case h_1=>
  rename_i hst;split at h
  ·rename_i y qQ hi' hy oR jz;simp only[aA] at h;subst h;exact jZ rfl (fun _=>rfl) (aqG ho (aeR hst) (dL hy) (NW oR) (NW jz))
  ·cases h
 split at h
 case h_2=>cases h
 rename_i e y qQ hi' he hy oR jz;rw[bU] at h;obtain⟨k,hk,rfl⟩:=h;have Aj:=apR ho (Eu he) hk (dL hy) (NW oR) (NW jz)
 cases qQ with
 |some p=>exact jZ rfl (fun _=>rfl) Aj
 |none=>
  cases lo with
  |some p=>simp[Et] at oR
  |none=>
   refine⟨fun U=> ?_,fun m e' h'=>by cases h';exact Aj⟩;intro N F M w0 w st G H a X hR hs K Q hK;simp only[tN] at hs;split at hs
   ·exact aqi (hi':=hi') ho (Eu he) hk (dL hy) (NW jz) N F M w0 w st G H a X hR hs K Q hK
   ·exact aew Aj N F M w0 w st G H a X hR hs K Q hK
theorem aqW(ho:o.op=.build t ps)(h:XC P owns o.dst t ps=some op):sJ P o op:=by
 unfold XC at h;split at h
 case h_2=>cases h
 rename_i pl z je hz;split at h
 case h_2=>cases h
 rename_i za qs Cq yC;simp only[aA] at h;subst h;exact jZ rfl (fun _=>rfl) (apV ho je hz Cq (Sb yC))
theorem aqX{n:Nat}(ho:o.op=.buildSlice t n ps)(h:XD P owns o.dst t n ps=some op):sJ P o op:=by
 unfold XD at h;split at h
 case h_2=>cases h
 rename_i e he;split at h
 case h_2=>cases h
 rename_i k z hk hz;split at h
 case h_2=>cases h
 rename_i za qs Cq yC;split at h
 case isFalse=>cases h
 rename_i hc;obtain⟨h1,h2,h3⟩:=hc;split at h
 case h_2=>cases h
 split at h
 ·simp only[aA] at h;subst h;exact vm rfl (fun U=>aqd ho (Eu he) hk h1 h2 h3 hz Cq (Sb yC))
 ·simp only[aA] at h;subst h;exact vm rfl (fun U=>aqc ho (Eu he) hk h1 h2 h3 hz Cq (Sb yC))
theorem aeV{α:Type}{xs:Array α}{x:α}(h:xs.toList=[x]):xs=#[x]:=Array.ext' h
theorem Sg{α:Type}{xs:Array α}{x y:α}(h:xs.toList=[x,y]):xs=#[x,y]:=Array.ext' h
theorem aqY{α:Type}{xs:Array α}{x y z:α}(h:xs.toList=[x,y,z]):xs=#[x,y,z]:=Array.ext' h
theorem aqZ(ho:o.op=.makeSlice t x x)(h:XF P owns dst t x=some op):sJ P o op:=by
 unfold XF at h;split at h
 case h_2=>cases h
 rename_i e q he hq;split at h
 case h_2=>cases h
 rename_i it hit;split at h
 case h_2=>cases h
 rename_i zv hz;split at h
 case isFalse=>cases h
 rename_i hc;split at h
 case h_2=>cases h
 rename_i za d Cq;split at h
 ·simp only[aA] at h;subst h;exact vm rfl (fun U=>aqK ho (Eu he) hit hz rfl hc.2.1 hc.1 hc.2.2 Cq (dL hq))
 ·simp only[aA] at h;subst h;exact vm rfl (fun U=>aqt ho (Eu he) hit hz rfl hc.2.1 hc.1 hc.2.2 Cq (dL hq))
theorem ara{t':TypeId}(ho:o.op=.call { callee:=.builtin .append,args:=#[x,z],argTypes:=#[t,t'] })(h:XG P x z t t'=some op):sJ P o op:=by
 unfold XG at h;split at h
 case isFalse=>cases h
 rename_i ht;subst ht;split at h
 case h_2=>cases h
 rename_i e y q he hy hq;split at h
 case h_2=>cases h
 rename_i it hi;split at h
 case h_2=>cases h
 rename_i zv Xj;split at h
 case isFalse=>cases h
 rename_i hc;obtain⟨h1,h2,h3⟩:=hc;simp only[aA] at h;subst h;exact vm rfl (fun U=>aqf (bytes:=it.bytes) (zv:=zv) ho (Eu he) (by rw[hi];simp[Xj]) h1 h2 h3 (dL hy) (dL hq))
theorem arb{c:Call}(ho:o.op=.call c)(h:XH P owns dst c=some op):sJ P o op:=by
 obtain⟨callee,args,ts⟩:=c;unfold XH at h;dsimp only at h;split at h
 ·rename_i f;split at h
  case h_2=>cases h
  rename_i fn hf;split at h
  case isFalse=>cases h
  rename_i hc;rw[bU] at h;obtain⟨ys,hy,he⟩:=h;split at he
  ·subst he;exact vm rfl (fun U=>aeE ho hf hc.1 hc.2 (Sa hy))
  ·subst he;exact vm rfl (fun U=>aqk ho hf hc.1 hc.2 (Sa hy))
  ·subst he;exact vm rfl (fun U=>aeE ho hf hc.1 hc.2 (Sa hy))
 ·split at h
  case h_2=>cases h
  rename_i x t hx ht;rw[aeV hx,aeV ht] at ho;split at h
  case h_1=>
   rename_i hst;rw[bU] at h;obtain⟨y,hy,rfl⟩:=h;exact jZ rfl (fun _=>rfl) (aqE ho (aeR hst) (dL hy))
  split at h
  case h_2=>cases h
  rename_i e y he hy;simp only[aA] at h;subst h;exact jZ rfl (fun _=>rfl) (aqL ho (Eu he) (dL hy))
 ·split at h
  case h_2=>cases h
  rename_i x z t t' hx ht;rw[Sg hx,Sg ht] at ho;exact ara ho h
 ·split at h
  ·rename_i x z hx;split at h
   case h_2=>cases h
   rename_i y q hy hq;simp only[aA] at h;subst h;rw[Sg hx] at ho;exact jZ rfl (fun _=>rfl) (aet (mx:=true) ho (dL hy) (dL hq))
  ·rename_i x z t hx;split at h
   case h_2=>cases h
   rename_i y q r hy hq hr;simp only[aA] at h;subst h;rw[aqY hx] at ho;exact jZ rfl (fun _=>rfl) (aqI ho (dL hy) (dL hq) (dL hr))
  ·cases h
 ·split at h
  case h_2=>cases h
  rename_i x z hx;split at h
  case h_2=>cases h
  rename_i y q hy hq;simp only[aA] at h;subst h;rw[Sg hx] at ho;exact jZ rfl (fun _=>rfl) (aet (mx:=false) ho (dL hy) (dL hq))
 ·cases h
theorem XI {α:Type}:∀{T:List (Nat×α)} {s:Nat} {x:α},aJ T s=some x->(s,x)∈T
 |[],s,x,h=>by simp[aJ] at h
 |(i,y)::T,s,x,h=>by
  simp only[aJ] at h;split at h
  ·rename_i hi;simp only[aA] at h;subst hi;subst h;exact Nj
  ·exact lF _ (XI h)
theorem arc(hE:∀p∈owns.eqs,sI P p.1 p.2)(h:Sd P owns o=some op):sJ P o op:=by
 unfold Sd at h;split at h
 ·rename_i x ho;exact aeU (.inl ho) h
 ·rename_i x ho;exact aeU (.inr ho) h
 ·rename_i NZ t x y t' ho;split at h
  ·rename_i p q hp hq;split at h
   ·rename_i n hn;simp only[aA] at h;subst h;exact jZ rfl (fun _=>rfl) (aeO (neg:=false) ho (hE _ (XI hn)) (dL hp) (dL hq))
   ·rename_i n hn;simp only[aA] at h;subst h;exact jZ rfl (fun _=>rfl) (aeO (neg:=true) ho (hE _ (XI hn)) (dL hp) (dL hq))
   ·rename_i i _ hi;simp only[aA] at h;subst h;exact jZ rfl (fun _=>rfl) (aeP (neg:=false) ho hi (dL hp))
   ·rename_i i _ hi;simp only[aA] at h;subst h;exact jZ rfl (fun _=>rfl) (aeP (neg:=true) ho hi (dL hp))
   ·simp only[aA] at h;subst h;exact jZ rfl (fun _=>rfl) (apF ho (dL hp) (dL hq))
  ·cases h
 ·rename_i Oa t x ho;rw[bU] at h;obtain⟨y,hy,rfl⟩:=h;exact jZ rfl (fun _=>rfl) (apG ho (dL hy))
 ·rename_i c x y ho;split at h
  ·rename_i p q r hp hq hr;simp only[aA] at h;subst h;exact jZ rfl (fun _=>rfl) (apH ho (dL hp) (dL hq) (dL hr))
  ·cases h
 ·rename_i t x ho;exact aqR ho h
 ·rename_i t x z ho;exact aqS ho h
 ·rename_i t x f ho;exact aqT ho h
 ·rename_i t x z ho;exact aqU ho h
 ·rename_i t x lo hi mx ho;exact aqV ho h
 ·rename_i x i ho;rw[bU] at h;obtain⟨y,hy,rfl⟩:=h;exact jZ rfl (fun _=>rfl) (apO ho (dL hy))
 ·rename_i t x z ho;split at h
  ·rename_i y q hu hy hq;simp only[aA] at h;subst h;exact jZ rfl (fun _=>rfl) (apP ho hu (dL hy) (dL hq))
  ·cases h
 ·rename_i t ps ho;exact aqW ho h
 ·rename_i t n ps ho;exact aqX ho h
 ·rename_i t x ho;split at h
  ·rename_i d y hd hy;simp only[aA] at h;subst h;exact vm rfl (fun U=>aqa ho (dL hy))
  ·cases h
 ·rename_i t ho;split at h
  ·rename_i d z hd hz;rw[bU] at h;obtain⟨za,Cq,rfl⟩:=h;exact vm rfl (fun U=>aqb ho hz Cq)
  ·cases h
 ·rename_i c ho;exact arb ho h
 ·rename_i t x y ho;split at h
  ·rename_i mu;obtain rfl:=aqP mu;exact aqZ ho h
  ·cases h
 ·rename_i t t' x ho;unfold aeS at h;split at h
  ·rename_i d k y hd hk hy;simp only[aA] at h;subst h;exact jZ rfl (fun _=>rfl) (aqH ho (by rw[hd];rfl) hk (dL hy))
  ·cases h
 ·rename_i x ho;rw[bU] at h;obtain⟨y,hy,rfl⟩:=h;exact jZ rfl (fun _=>rfl) (aqJ ho (dL hy))
 ·cases h
end
structure BO where
 d:Option Nat
 g:Option (Nat×Bool)
 op:ft
inductive fA where
 |skip
 |ret
 |exit (id:Nat)
 |seq (x y:fA)
 |cond (t:aQ) (x y:fA)
 |block (id:Nat) (c:fA)
 |loop (c:fA)
 |region (l:List BO)
 |tM (l:List BO) (n:Nat) (t:OT) (U:List Nat)
 |mC (s:Nat) (c:fA)
 |pL (b off s e k:Nat) (c:fA)
def BO.ao (P:Program)(b:BO):AO:=Ab.mk P b.d b.g b.op
def lift (P:Program):fA->pK
 | .skip=> .skip
 | .ret=> .ret
 | .exit id=> .exit id
 | .seq x y=> .seq (lift P x) (lift P y)
 | .cond t x y=> .cond t (lift P x) (lift P y)
 | .block id c=> .block id (lift P c)
 | .loop c=> .loop (lift P c)
 | .region l=> .region (l.map (BO.ao P))
 | .tM l n t U=> .tM (l.map (BO.ao P)) n t U
 | .mC s c=> .mC s (lift P c)
 | .pL b off s e k c=> .pL b off s e k (lift P c)
def Oc:List Nat->fA->fA
 |[],b=>b
 |s::r,b=> .mC s (Oc r b)
def Od:List (Nat×Nat×Nat×Nat×Nat)->fA->fA
 |[],b=>b
 |(q,off,s,e,k)::r,b=> .pL q off s e k (Od r b)
def aeW (N:Nat):Option Nat->Bool
 |some d=>decide (d<N)
 |none=>true
def Oe (P:Program)(owns:ij)(N:Nat)(ops:Array Oper)(o:Oper):Option BO:=match Sd P owns o with
 |none=>none
 |some op=>if aeW N o.dst=true then match o.guard with
   |none=>some ⟨o.dst,none,op⟩
   |some (j,want)=>match(ops[j]?).bind (·.dst) with
    |some t=>some ⟨o.dst,some (t,want),op⟩
    |none=>none
  else none
def Ew (P:Program)(owns:ij)(N:Nat)(ops:Array Oper):List Oper->Option (List BO)
 |[]=>some []
 |o::r=>match Oe P owns N ops o,Ew P owns N ops r with
  |some b,some q=>some (b::q)
  |_,_=>none
abbrev Trees:=List (Nat×Nat×OT×List Nat)
def XJ:Trees->Nat->Option (Nat×OT×List Nat)
 |[],_=>none
 |(i,x)::l,j=>if i=j then some x else XJ l j
def ik (P:Program)(owns:ij)(N:Nat)(ts:Trees):Code->Option fA
 | .skip=>some .skip
 | .ret=>some .ret
 | .exit id=>some (.exit id)
 | .seq x y=>match ik P owns N ts x,ik P owns N ts y with
  |some a,some b=>some (.seq a b)
  |_,_=>none
 | .cond t x y=>match eo t,ik P owns N ts x,ik P owns N ts y with
  |some t,some a,some b=>some (.cond t a b)
  |_,_,_=>none
 | .block id c=>(ik P owns N ts c).map (.block id)
 | .loop c=>(ik P owns N ts c).map .loop
 | .region id ops d=>match Ew P owns N ops ops.toList with
  |some l=>match d with
   |false=>some (Oc ((aJ owns.mC id).getD []) (Od ((aJ owns.Xw id).getD []) (.region l)))
   |true=>match XJ ts id with
    |some (n,t,U)=>if P.follows .mixedOrders=true/\(Region.noSelect ops && se .any ops n && pz .any ops n t n (Array.replicate ops.size false))=true then some (Oc ((aJ owns.mC id).getD []) (Od ((aJ owns.Xw id).getD []) (.tM l n t U))) else none
    |none=>none
  |none=>none
 |_=>none
section
variable {P:Program} {owns:ij} {N:Nat} {ops:Array Oper} {ts:Trees}
theorem ard (hE:∀p∈owns.eqs,sI P p.1 p.2){o:Oper}{b:BO}(h:Oe P owns N ops o=some b):KL P N ops o (b.ao P):=by
 unfold Oe at h;split at h
 ·cases h
 rename_i op hop;have hk:=arc hE hop;split at h
 case isFalse=>cases h
 rename_i hd
 have hlt:∀d,o.dst=some d->d<N:=fun d e=>by rw[e] at hd;simpa [aeW] using hd
 split at h
 ·rename_i hg;simp only[aA] at h;subst h;exact⟨hk.1,rfl,hlt,by rw[hg];trivial,hk.2⟩
 ·rename_i j want hg;split at h
  ·rename_i t ht;simp only[aA] at h;subst h;exact⟨hk.1,rfl,hlt,by rw[hg];exact⟨rfl,ht⟩,hk.2⟩
  ·cases h
theorem XK (hE:∀p∈owns.eqs,sI P p.1 p.2):∀{os:List Oper} {l:List BO},Ew P owns N ops os=some l->sH P N ops os (l.map (BO.ao P))
 |[],l,h=>by
  simp only[Ew,aA] at h;subst h;exact .nil
 |o::os,l,h=>by
  unfold Ew at h;split at h
  ·rename_i b q h1 h2;simp only[aA] at h;subst h;exact .cons (ard hE h1) (XK hE h2)
  ·cases h
theorem XL {c:Code}:∀(l:List Nat) {b:fA},jB P N c (lift P b)->jB P N c (lift P (Oc l b))
 |[],_,h=>h
 |s::r,_,h=> .mC s (XL r h)
theorem XM {c:Code}:∀(l:List (Nat×Nat×Nat×Nat×Nat)) {b:fA},jB P N c (lift P b)->jB P N c (lift P (Od l b))
 |[],_,h=>h
 |(q,off,s,e,k)::r,_,h=> .pL q off s e k (XM r h)
theorem aeX (hE:∀p∈owns.eqs,sI P p.1 p.2):∀{c:Code} {b:fA},ik P owns N ts c=some b->jB P N c (lift P b):=by
 intro c
 induction c with
 |skip=>intro b h;simp only[ik,aA] at h;subst h;exact .skip
 |ret=>intro b h;simp only[ik,aA] at h;subst h;exact .ret
 |exit id=>intro b h;simp only[ik,aA] at h;subst h;exact .exit id
 |seq x y yy yz=>
  intro b h;unfold ik at h;split at h
  ·rename_i p q h1 h2;simp only[aA] at h;subst h;exact .seq (yy h1) (yz h2)
  ·cases h
 |cond t x y yy yz=>
  intro b h;unfold ik at h;split at h
  ·rename_i t' p q h0 h1 h2;simp only[aA] at h;subst h;exact .cond (dL h0) (yy h1) (yz h2)
  ·cases h
 |block id c ih=>
  intro b h;simp only[ik,bU] at h;obtain⟨p,hp,rfl⟩:=h;exact .block id (ih hp)
 |loop c ih=>
  intro b h;simp only[ik,bU] at h;obtain⟨p,hp,rfl⟩:=h;exact .loop (ih hp)
 |region id ops d=>
  intro b h;unfold ik at h;split at h
  ·rename_i l hl;split at h
   ·simp only[aA] at h;subst h;exact XL _ (XM _ (.region id (XK hE hl)))
   ·split at h
    ·rename_i n t U ht;split at h
     ·rename_i hc;simp only[aA] at h;subst h;exact XL _ (XM _ (jB.tM (l:=ops.toList) id n t U (XK hE hl) hc.1 hc.2))
     ·cases h
    ·cases h
  ·cases h
 |_=>intro b h;simp[ik] at h
def uV:List Nat->List (Nat×AV)
 |[]=>[]
 |i::l=>(i,.u)::uV l
def V0:List AW->Nat->List Nat->List (Nat×AV)
 |[],_,vs=>uV vs
 |a::r,k,vs=>(k,.w a)::V0 r (k+1) vs
def S0:List Nat->List (Nat×Slot)
 |[]=>[]
 |i::l=>(i,.dead 0)::S0 l
theorem XN:∀{vs:List Nat} {i:Nat} {x:AV},aJ (uV vs) i=some x->x=.u
 |[],i,x,h=>by simp[uV,aJ] at h
 |v::vs,i,x,h=>by
  simp only[uV,aJ] at h;split at h
  ·simp only[aA] at h;exact h.symm
  ·exact XN h
theorem aeY:∀{args:List AW} {k:Nat} {vs:List Nat} {i:Nat} {x:AV},aJ (V0 args k vs) i=some x->x=.u\/∃j y,i=k+j/\args[j]? =some y/\x=.w y
 |[],k,vs,i,x,h=> .inl (XN h)
 |a::r,k,vs,i,x,h=>by
  simp only[V0,aJ] at h;split at h
  ·rename_i hk;simp only[aA] at h;exact .inr ⟨0,a,hk.symm,rfl,h.symm⟩
  ·rcases aeY h with h1|⟨j,y,h1,h2,h3⟩
   ·exact .inl h1
   ·exact .inr ⟨j+1,y,ab,by simpa using h2,h3⟩
theorem aeZ:∀(ss:List Nat) (s:Nat),(aJ (S0 ss) s).getD (.dead 0)=.dead 0
 |[],s=>rfl
 |v::vs,s=>by
  simp only[S0,aJ];split
  ·rfl
  ·exact aeZ vs s
theorem arf (hE:∀p∈owns.eqs,sI P p.1 p.2){f:FuncId}{fn:Func}{c:Code}{b:fA}(hf:P.funcs[f]? =some fn)(hb:fn.body=some c)(ht:ik P owns fn.ntmps ts c=some b)(args:List AW)(Cn:args.length<=fn.ntmps)(vs ss:List Nat){Q:AV->Prop}
  (h:aP (lift P b) (fun e st=>(match e with | .exit _=>False|_=>True)/\∃xs,yA P st fn.results.toList=some xs/\Q (ek xs)) ⟨V0 args 0 vs,[],S0 ss⟩):bj P f args Q:=
 aqx hf hb (aeX hE ht) args Cn _ _ (fun i x hx=>by
  rcases aeY hx with h1|⟨j,y,h1,h2,h3⟩
  ·exact .inl h1
  ·rw[eP] at h1;subst h1;exact .inr ⟨y,h2,h3⟩) (aeZ ss) h
end
def St.eR (st:St)(d:Option Nat)(x:AV):St:=match d with
 |some d=>st.put d x
 |none=>st
def qZ (U:Option (List Nat))(s:Nat):Bool:=match U with
 |none=>true
 |some l=>l.contains s
def afa (U:Option (List Nat)):Option Nat->Bool
 |none=>true
 |some s=>qZ U s
theorem Sh {U:Option (List Nat)}{s:Nat}(h:qZ U s=true):yt U s:=by
 cases U with
 |none=>trivial
 |some l=>simpa [qZ,yt] using h
def dD (U:Option (List Nat))(st:St):ft->Option (AV×St)
 | .Hu s e k=>if(aJ st.S s).isSome=true then some (.w (.c (.own s ((st.slot s).gen+1))),st.cr s (.row e k ((st.slot s).gen+1) [])) else none
 | .box s x=>match st.arg x with
  |some (.w xw)=>if(aJ st.S s).isSome=true then some (.pb s ((st.slot s).gen+1) 0,st.cr s (.box ((st.slot s).gen+1) xw.cells)) else none
  |_=>none
 | .alloc s za=>if(aJ st.S s).isSome=true then some (.pb s ((st.slot s).gen+1) 0,st.cr s (.box ((st.slot s).gen+1) za)) else none
 | .vh k n za qs=>match qR st qs with
  |some pr=>match nL (dx k n za) pr with
   |some cs=>if cs.all inl=true then some (.w (.c (.sl (rowsOf k n cs))),st) else none
   |none=>none
  |none=>none
 | .Am s e k n za qs=>match qR st qs with
  |some pr=>match nL (dx k n za) pr with
   |some cs=>if cs.all inl=true/\(aJ st.S s).isSome=true then some (.w (.c (.own s ((st.slot s).gen+1))),st.cr s (.row e k ((st.slot s).gen+1) (rowsOf k n cs))) else none
   |none=>none
  |none=>none
 | .app e k x y=>match st.arg x with
  |some (.w (.c (.own s g)))=>match aJ st.S s with
   |some (.row e' k' g' es)=>match st.rows [s] (st.arg y) with
    |some ys=>if(e=e'/\k=k'/\g=g')/\(∀row∈ys,row.length=k)/\es.length+ys.length<=100000000/\qZ U s=true then some (.w (.c (.own s (g+1))),st.cr s (.row e k (g+1) (es++ys))) else none
    |none=>none
   |_=>none
  |_=>none
 | .store n p x=>match st.arg x with
  |some (.w xw)=>match st.store xw.cells (st.arg p) with
   |some st'=>if xw.cells.length=n/\afa U (NN (st.arg p))=true then some (.u,st') else none
   |none=>none
  |_=>none
 | .Er k za x=>match st.sc x with
  |some (.int .i64 n)=>if 0<=n/\n<=1000000/\(dx k n.toNat za).all inl=true then some (.w (.c (.sl (rowsOf k n.toNat (dx k n.toNat za)))),st) else none
  |_=>none
 | .Ia s e k za x=>match st.sc x with
  |some (.int .i64 n)=>if 0<=n/\n<=1000000/\(dx k n.toNat za).all inl=true/\(aJ st.S s).isSome=true then some (.w (.c (.own s ((st.slot s).gen+1))),st.cr s (.row e k ((st.slot s).gen+1) (rowsOf k n.toNat (dx k n.toNat za)))) else none
  |_=>none
 | .qO k x none hi=>match st.arg x with
  |some (.w (.c (.own s g)))=>match aJ st.S s with
   |some (.row e k' g' es)=>match xa st es.length hi with
    |some h=>if g=g'/\h<=es.length then some (.w (.c (.own s (g+1))),st.cr s (.row e k' (g+1) (es.take h))) else none
    |none=>none
   |_=>none
  |_=>match cC (.qO k x none hi) with
   |some (_,ev)=>(ev st []).map fun x=>(x,st)
   |none=>none
 | .call _ _=>none
 | .nM _ _ _=>none
 | .qY _ _ _ _=>none
 |op=>match cC op with
  |some (_,ev)=>(ev st []).map fun x=>(x,st)
  |none=>none
section
variable {P:Program}
variable {K:St->Prop} {Q:gV->St->Prop} {U:Option (List Nat)} {X:AV->St->Prop} {b:BO} {c:fA} {d:Option Nat} {f:FuncId} {op:ft} {r:List BO} {st st':St} {ws:List AW} {x:AV} {ys:List aQ}
theorem XO(h:dD U st op=some (x,st'))(hX:X x st'):tN P U op st X:=by
 have rd:∀(ev:St->List Nat->Option AV),((ev st []).map fun x=>(x,st))=some (x,st')->KR ev st X:=fun ev h=>by
  rw[bU] at h;obtain⟨y,hy,he⟩:=h;cases he;exact⟨x,hy,hX⟩
 cases op with
 |Hu s e k=>
  simp only[dD] at h;split at h
  ·rename_i hs;simp only[aA,jM] at h;obtain⟨rfl,rfl⟩:=h;exact⟨hs,hX⟩
  ·cases h
 |box s y=>
  simp only[dD] at h;split at h
  ·rename_i xw hy;split at h
   ·rename_i hs;simp only[aA,jM] at h;obtain⟨rfl,rfl⟩:=h;exact⟨xw,hy,hs,hX⟩
   ·cases h
  ·cases h
 |alloc s za=>
  simp only[dD] at h;split at h
  ·rename_i hs;simp only[aA,jM] at h;obtain⟨rfl,rfl⟩:=h;exact⟨hs,hX⟩
  ·cases h
 |Er k za y=>
  simp only[dD] at h;split at h
  ·rename_i n hn;split at h
   ·rename_i hc;simp only[aA,jM] at h;obtain⟨rfl,rfl⟩:=h;exact⟨n.toNat,by rw[hn,Int.toNat_of_nonneg hc.1],ab,hc.2.2,hX⟩
   ·cases h
  ·cases h
 |Ia s e k za y=>
  simp only[dD] at h;split at h
  ·rename_i n hn;split at h
   ·rename_i hc;simp only[aA,jM] at h;obtain⟨rfl,rfl⟩:=h;exact⟨n.toNat,by rw[hn,Int.toNat_of_nonneg hc.1],ab,hc.2.2.1,hc.2.2.2,hX⟩
   ·cases h
  ·cases h
 |vh k n za qs=>
  simp only[dD] at h;split at h
  ·rename_i pr XP;split at h
   ·rename_i cs hcs;split at h
    ·rename_i hi;simp only[aA,jM] at h;obtain⟨rfl,rfl⟩:=h;exact⟨pr,cs,XP,hcs,hi,hX⟩
    ·cases h
   ·cases h
  ·cases h
 |Am s e k n za qs=>
  simp only[dD] at h;split at h
  ·rename_i pr XP;split at h
   ·rename_i cs hcs;split at h
    ·rename_i hi;simp only[aA,jM] at h;obtain⟨rfl,rfl⟩:=h;exact⟨pr,cs,XP,hcs,hi.1,hi.2,hX⟩
    ·cases h
   ·cases h
  ·cases h
 |app e k y z=>
  simp only[dD] at h;split at h
  ·rename_i s g hy;split at h
   ·rename_i e' k' g' es hs;split at h
    ·rename_i ys hys;split at h
     ·rename_i hc;obtain⟨⟨rfl,rfl,rfl⟩,h2,h3,h4⟩:=hc;simp only[aA,jM] at h;obtain⟨rfl,rfl⟩:=h;exact⟨s,g,es,ys,hy,hs,hys,h2,h3,Sh h4,hX⟩
     ·cases h
    ·cases h
   ·cases h
  ·cases h
 |store n p y=>
  simp only[dD] at h;split at h
  ·rename_i xw hy;split at h
   ·rename_i st2 hst;split at h
    ·rename_i hc;simp only[aA,jM] at h;obtain⟨rfl,rfl⟩:=h;exact⟨xw,_,hy,hc.1,hst,fun s hs=>by have:=hc.2;rw[hs] at this;exact Sh this,hX⟩
    ·cases h
   ·cases h
  ·cases h
 |qO k y lo hi=>
  cases lo with
  |none=>
   simp only[dD] at h;simp only[tN];split at h
   ·rename_i s g hy
    try rw[hy]
    split at h
    ·rename_i e k' g' es hs;split at h
     ·rename_i hh jz;split at h
      ·rename_i hc;obtain⟨rfl,h2⟩:=hc;simp only[aA,jM] at h;obtain⟨rfl,rfl⟩:=h;exact⟨s,g,e,k',es,hh,hy,hs,jz,h2,hX⟩
      ·cases h
     ·cases h
    ·cases h
   ·rename_i hne;have h2:=rd ((cC (.qO k y none hi)).get rfl).2 h
    first
    |exact h2
    |(split
      ·rename_i s g hy;exact absurd hy (hne s g)
      ·exact h2)
  |some lo=>exact rd ((cC (.qO k y (some lo) hi)).get rfl).2 h
 |call f ys=>simp[dD] at h
 |nM f ys D=>simp[dD] at h
 |qY D n p y=>simp[dD] at h
 |mv y=>exact rd ((cC (.mv y)).get rfl).2 h
 |bin NZ y z=>exact rd ((cC (.bin NZ y z)).get rfl).2 h
 |un Oa y=>exact rd ((cC (.un Oa y)).get rfl).2 h
 |pick c y z=>exact rd ((cC (.pick c y z)).get rfl).2 h
 |len y=>exact rd ((cC (.len y)).get rfl).2 h
 |mm mx y z=>exact rd ((cC (.mm mx y z)).get rfl).2 h
 |ld1 p=>exact rd ((cC (.ld1 p)).get rfl).2 h
 |Ef n p=>exact rd ((cC (.Ef n p)).get rfl).2 h
 |uX p off=>exact rd ((cC (.uX p off)).get rfl).2 h
 |idx k y i=>exact rd ((cC (.idx k y i)).get rfl).2 h
 |Eg n k p i=>exact rd ((cC (.Eg n k p i)).get rfl).2 h
 |ext y i=>exact rd ((cC (.ext y i)).get rfl).2 h
 |Eh y i=>exact rd ((cC (.Eh y i)).get rfl).2 h
 |Co y=>exact rd ((cC (.Co y)).get rfl).2 h
 |Es i g y=>exact rd ((cC (.Es i g y)).get rfl).2 h
 |Hy y lo hi=>exact rd ((cC (.Hy y lo hi)).get rfl).2 h
 |HK kk y=>exact rd ((cC (.HK kk y)).get rfl).2 h
 |Cp y=>exact rd ((cC (.Cp y)).get rfl).2 h
 |HQ y z t=>exact rd ((cC (.HQ y z t)).get rfl).2 h
 |Ei za qs=>exact rd ((cC (.Ei za qs)).get rfl).2 h
 |eqs neg n y z=>exact rd ((cC (.eqs neg n y z)).get rfl).2 h
def nf (U:Option (List Nat))(st:St)(b:BO):Option St:=match b.g with
 |none=>(dD U st b.op).map fun p=>p.2.eR b.d p.1
 |some (t,want)=>match lS (st.arg (.t t)) want with
  |some true=>(dD U st b.op).map fun p=>p.2.eR b.d p.1
  |some false=>some (st.eR b.d (.bP []))
  |none=>none
theorem Si(st:St)(b:BO)(x:AV):st.mz (b.ao P) x=st.eR b.d x:=rfl
theorem afb(h:nf U st b=some st')(hK:K st'):sG U (b.ao P) K st:=by
 have go:((dD U st b.op).map fun p=>p.2.eR b.d p.1)=some st'->(b.ao P).xc U st fun x st2=>K (st2.mz (b.ao P) x):=fun h=>by
  rw[bU] at h;obtain⟨⟨x,st2⟩,h1,h2⟩:=h;exact XO h1 (by rw[Si];dsimp only at h2;rw[h2];exact hK)
 obtain⟨d,g,op⟩:=b;unfold nf at h;dsimp only at h;unfold sG
 cases g with
 |none=>exact go h
 |some p=>
  obtain⟨t,want⟩:=p;dsimp only at h
  show(match lS (st.arg (.t t)) want with
   |some true=>_
   |some false=>_
   |none=>False)
  split at h
  ·exact go h
  ·simp only[aA] at h;rw[Si,h];exact hK
  ·cases h
theorem bl(h:nf U st b=some st')(hr:bB U (r.map (BO.ao P)) K st'):bB U ((b::r).map (BO.ao P)) K st:=afb h hr
theorem bG(h:K st):bB U (([]:List BO).map (BO.ao P)) K st:=h
theorem afc{R:AV->Prop}(ha:oU st ys=some ws)(hC:bj P f ws R)(hr:∀x,R x->bB U (r.map (BO.ao P)) K (st.eR d x)):
  bB U ((⟨d,none,.call f ys⟩::r:List BO).map (BO.ao P)) K st:=⟨ws,R,ha,hC,fun x hx=>hr x hx⟩
theorem Ex(ha:oU st ys=some ws)(hC:bj P f ws (fun y=>y=x))(hr:bB U (r.map (BO.ao P)) K (st.eR d x)):
  bB U ((⟨d,none,.call f ys⟩::r:List BO).map (BO.ao P)) K st:=afc ha hC fun y hy=>by rw[hy];exact hr
theorem arh{l:List BO}{V L:List (Nat×AV)}{S:List (Nat×Slot)}(h:bB none (l.map (BO.ao P)) (Q .normal) ⟨V,[],S⟩):aP (lift P (.region l)) Q ⟨V,L,S⟩:=h
theorem Sj{t:aQ}{x y:fA}{b:Bool}(hb:st.sc t=some (.bool b))(h:aP (lift P (if b then x else y)) Q st):aP (lift P (.cond t x y)) Q st:=by
 show(match st.sc t with
  |some (.bool true)=>_
  |some (.bool false)=>_
  |_=>False)
 rw[hb];cases b<;>exact h
theorem ari{id:Nat}(h:aP (lift P c) (mD id Q) st):aP (lift P (.block id c)) Q st:=h
theorem afd{Y:AV->St->Prop}(tO:∀x st,X x st->Y x st)(h:tN P U op st X):tN P U op st Y:=by
 have rd:∀(ev:St->List Nat->Option AV),KR ev st X->KR ev st Y:=fun ev ⟨x,h1,h2⟩=>⟨x,h1,tO _ _ h2⟩
 cases op with
 |Hu s e k=>exact⟨h.1,tO _ _ h.2⟩
 |box s y=>obtain⟨xw,h1,h2,h3⟩:=h;exact⟨xw,h1,h2,tO _ _ h3⟩
 |alloc s za=>exact⟨h.1,tO _ _ h.2⟩
 |vh k n za qs=>obtain⟨a,b,h1,h2,h3,h4⟩:=h;exact⟨a,b,h1,h2,h3,tO _ _ h4⟩
 |Er k za y=>obtain⟨n,h1,h2,h3,h4⟩:=h;exact⟨n,h1,h2,h3,tO _ _ h4⟩
 |Ia s e k za y=>obtain⟨n,h1,h2,h3,h4,h5⟩:=h;exact⟨n,h1,h2,h3,h4,tO _ _ h5⟩
 |Am s e k n za qs=>obtain⟨a,b,h1,h2,h3,h4,h5⟩:=h;exact⟨a,b,h1,h2,h3,h4,tO _ _ h5⟩
 |app e k y z=>obtain⟨s,g,es,ys,h1,h2,h3,h4,h5,h6,h7⟩:=h;exact⟨s,g,es,ys,h1,h2,h3,h4,h5,h6,tO _ _ h7⟩
 |store n p y=>obtain⟨xw,st',h1,h2,h3,h4,h5⟩:=h;exact⟨xw,st',h1,h2,h3,h4,tO _ _ h5⟩
 |qY D n p y=>obtain⟨xw,st',h1,h2,h3,h4,h5⟩:=h;exact⟨xw,st',h1,h2,h3,h4,tO _ _ h5⟩
 |call f ys=>obtain⟨ws,R,h1,h2,h3⟩:=h;exact⟨ws,R,h1,h2,fun r hr=>tO _ _ (h3 r hr)⟩
 |nM f ys D=>obtain⟨ws,R,h1,h2,h3,h4,h5,h6⟩:=h;exact⟨ws,R,h1,h2,h3,h4,h5,fun r S' hr=>⟨(h6 r S' hr).1,tO _ _ (h6 r S' hr).2⟩⟩
 |qO k y lo hi=>
  cases lo with
  |some lo=>exact rd ((cC (.qO k y (some lo) hi)).get rfl).2 h
  |none=>
   simp only[tN] at h⊢;split at h
   ·obtain⟨s,g,e,k,es,hh,h1,h2,h3,h4,h5⟩:=h;exact⟨s,g,e,k,es,hh,h1,h2,h3,h4,tO _ _ h5⟩
   ·exact rd _ h
 |mv y=>exact rd ((cC (.mv y)).get rfl).2 h
 |bin NZ y z=>exact rd ((cC (.bin NZ y z)).get rfl).2 h
 |un Oa y=>exact rd ((cC (.un Oa y)).get rfl).2 h
 |pick c y z=>exact rd ((cC (.pick c y z)).get rfl).2 h
 |len y=>exact rd ((cC (.len y)).get rfl).2 h
 |mm mx y z=>exact rd ((cC (.mm mx y z)).get rfl).2 h
 |ld1 p=>exact rd ((cC (.ld1 p)).get rfl).2 h
 |Ef n p=>exact rd ((cC (.Ef n p)).get rfl).2 h
 |uX p off=>exact rd ((cC (.uX p off)).get rfl).2 h
 |idx k y i=>exact rd ((cC (.idx k y i)).get rfl).2 h
 |Eg n k p i=>exact rd ((cC (.Eg n k p i)).get rfl).2 h
 |ext y i=>exact rd ((cC (.ext y i)).get rfl).2 h
 |Eh y i=>exact rd ((cC (.Eh y i)).get rfl).2 h
 |Co y=>exact rd ((cC (.Co y)).get rfl).2 h
 |Es i g y=>exact rd ((cC (.Es i g y)).get rfl).2 h
 |Hy y lo hi=>exact rd ((cC (.Hy y lo hi)).get rfl).2 h
 |HK kk y=>exact rd ((cC (.HK kk y)).get rfl).2 h
 |Cp y=>exact rd ((cC (.Cp y)).get rfl).2 h
 |HQ y z t=>exact rd ((cC (.HQ y z t)).get rfl).2 h
 |Ei za qs=>exact rd ((cC (.Ei za qs)).get rfl).2 h
 |eqs neg n y z=>exact rd ((cC (.eqs neg n y z)).get rfl).2 h
theorem Ib{K':St->Prop}(hK:∀st,K st->K' st)(h:sG U (b.ao P) K st):sG U (b.ao P) K' st:=by
 obtain⟨d,g,op⟩:=b
 cases g with
 |none=>exact afd (fun x st hx=>hK _ hx) h
 |some p=>
  obtain⟨t,want⟩:=p
  change (match lS (st.arg (.t t)) want with
   |some true=>tN P U op st _
   |some false=>_
   |none=>False) at h
  change (match lS (st.arg (.t t)) want with
   |some true=>tN P U op st _
   |some false=>_
   |none=>False)
  split at h
  ·exact afd (fun x st hx=>hK _ hx) h
  ·exact hK _ h
  ·exact h.elim
theorem Sk {U:Option (List Nat)}:∀{l:List BO} {st:St} {K K':St->Prop},(∀st,K st->K' st)->bB U (l.map (BO.ao P)) K st->bB U (l.map (BO.ao P)) K' st
 |[],st,K,K',hK,h=>hK _ h
 |b::l,st,K,K',hK,h=>Ib (fun st h=>Sk hK h) h
theorem yD {U:List Nat}{l tl:List BO}{K K':St->Prop}(hK:∀st,K st->K' st):∀{t:OT} {bu:Bool} {st:St},aW U (l.map (BO.ao P)) (tl.map (BO.ao P)) K t bu st->aW U (l.map (BO.ao P)) (tl.map (BO.ao P)) K' t bu st
 | .nil,bu,st,h=>Sk hK h
 | .take i t,bu,st,h=>by
  unfold aW at h⊢;split at h
  ·exact h.elim
  ·split at h
   ·exact h.elim
   ·refine⟨h.1,?_⟩;have h2:=h.2;split at h2
    ·obtain⟨x,h3,h4⟩:=h2;exact⟨x,h3,yD hK h4⟩
    ·split at h2
     ·obtain⟨x,h3,h4⟩:=h2;exact⟨x,h3,yD hK h4⟩
     ·exact yD hK h2
     ·exact h2.elim
 | .move i t,bu,st,h=>by
  unfold aW at h⊢;rw[fD] at h⊢
  cases hl:l[i]? with
  |none=>rw[hl] at h;exact h.elim
  |some b=>rw[hl] at h;exact Ib (b:=b) (fun st h=>yD hK h) h
 | .fork i j ti tj,bu,st,h=>by
  unfold aW at h⊢;obtain⟨h1,h2⟩:=h;rw[fD] at h1 h2;rw[fD,fD];refine⟨?_,?_⟩
  ·cases hl:l[i]? with
   |none=>rw[hl] at h1;exact h1.elim
   |some b=>rw[hl] at h1;exact Ib (b:=b) (fun st h=>yD hK h) h1
  ·cases hl:l[j]? with
   |none=>rw[hl] at h2;exact h2.elim
   |some b=>rw[hl] at h2;exact Ib (b:=b) (fun st h=>yD hK h) h2
 | .wR i j k ti tj tk,bu,st,h=>by
  unfold aW at h⊢;obtain⟨h1,h2,h3⟩:=h;rw[fD] at h1 h2 h3;rw[fD,fD,fD];refine⟨?_,?_,?_⟩
  ·cases hl:l[i]? with
   |none=>rw[hl] at h1;exact h1.elim
   |some b=>rw[hl] at h1;exact Ib (b:=b) (fun st h=>yD hK h) h1
  ·cases hl:l[j]? with
   |none=>rw[hl] at h2;exact h2.elim
   |some b=>rw[hl] at h2;exact Ib (b:=b) (fun st h=>yD hK h) h2
  ·cases hl:l[k]? with
   |none=>rw[hl] at h3;exact h3.elim
   |some b=>rw[hl] at h3;exact Ib (b:=b) (fun st h=>yD hK h) h3
theorem vp:∀{c:fA} {Q Q':gV->St->Prop} {st:St},(∀e st,Q e st->Q' e st)->aP (lift P c) Q st->aP (lift P c) Q' st
 | .skip,Q,Q',st,hQ,h=>hQ _ _ h
 | .ret,Q,Q',st,hQ,h=>hQ _ _ h
 | .exit id,Q,Q',st,hQ,h=>hQ _ _ h
 | .seq x y,Q,Q',st,hQ,h=>by
  refine vp (c:=x) (fun e st' he=> ?_) h
  cases e with
  |normal=>exact vp (c:=y) hQ he
  |exit id=>exact hQ _ _ he
  |ret=>exact hQ _ _ he
 | .cond t x y,Q,Q',st,hQ,h=>by
  unfold lift aP at h⊢;split at h
  ·rename_i hb;exact vp (c:=x) hQ h
  ·rename_i hb;exact vp (c:=y) hQ h
  ·exact h.elim
 | .block id c,Q,Q',st,hQ,h=>by
  refine vp (c:=c) (fun e st' he=> ?_) h
  cases e with
  |normal=>exact hQ _ _ he
  |exit pM=>
   unfold mD at he⊢;dsimp only at he⊢;split at he
   ·rename_i hi;rw[aj hi];exact hQ _ _ he
   ·rename_i hi;rw[af hi];exact hQ _ _ he
  |ret=>exact hQ _ _ he
 | .loop c,Q,Q',st,hQ,h=>by
  obtain⟨n,hn⟩:=h;refine⟨n,?_⟩
  have key:∀n st,Hh (aP (lift P c)) Q n st->Hh (aP (lift P c)) Q' n st:=by
   intro n
   induction n with
   |zero=>intro st h;exact h
   |succ n ih=>
    intro st h;refine vp (c:=c) (fun e st' he=> ?_) h
    cases e with
    |normal=>exact ih _ he
    |exit id=>exact hQ _ _ he
    |ret=>exact hQ _ _ he
  exact key n st hn
 | .mC s c,Q,Q',st,hQ,h=>vp (c:=c) (st:=st.freeze s) hQ h
 | .pL b off s e k c,Q,Q',st,hQ,h=>vp (c:=c) (st:=st.mB b off s e k) hQ h
 | .region l,Q,Q',st,hQ,h=>Sk (fun st h=>hQ _ _ h) h
 | .tM l n t U,Q,Q',st,hQ,h=>by
  have hd:(l.map (BO.ao P)).drop n=(l.drop n).map (BO.ao P):=by rw[List.map_drop]
  unfold lift aP at h⊢;rw[hd] at h⊢;exact yD (fun st h=>hQ _ _ h) h
theorem arj(I:Nat->St->Prop){n:Nat}(h0:I n st)(hr:∀n st,I n st->aP (lift P c) (lT (fun st'=>∃m,m<n/\I m st') Q) st):aP (lift P (.loop c)) Q st:=by
 have key:∀k n,n<=k->∀st,I n st->Hh (aP (lift P c)) Q (k+1) st:=by
  intro k
  induction k with
  |zero=>
   intro n hn st hI;refine vp (fun e st' he=> ?_) (hr n st hI)
   cases e with
   |normal=>obtain⟨m,hm,_⟩:=he;omega
   |exit id=>exact he
   |ret=>exact he
  |succ k ih=>
   intro n hn st hI;refine vp (fun e st' he=> ?_) (hr n st hI)
   cases e with
   |normal=>obtain⟨m,hm,hI'⟩:=he;exact ih m ab st' hI'
   |exit id=>exact he
   |ret=>exact he
 exact⟨n+1,key n n ax st h0⟩
end
inductive RV where
 |t (i:Nat)
 |cell (p n:Nat)
 |cell1 (p:Nat)
def Ic (P:Program):ResultVar->Option RV
 | .tmp t=>some (.t t)
 | .cell p ty=>match(P.info? ty).map (·.size),P.underlying ty with
  |some n,some d=>if d.isRow then some (.cell p n) else some (.cell1 p)
  |_,_=>none
def vq (P:Program):List ResultVar->Option (List RV)
 |[]=>some []
 |r::l=>match Ic P r,vq P l with
  |some x,some q=>some (x::q)
  |_,_=>none
def Cr (st:St):RV->Option AW
 | .t i=>match st.get i with
  |some (.w x)=>st.qX x
  |_=>none
 | .cell p n=>match st.cells [] n (st.get p) with
  |some cs=>st.qX (.agg cs)
  |none=>none
 | .cell1 p=>match st.cells [] 1 (st.get p) with
  |some [c]=>st.qX (.c c)
  |_=>none
def Ao (st:St):List RV->Option (List AW)
 |[]=>some []
 |r::l=>match Cr st r,Ao st l with
  |some x,some q=>some (x::q)
  |_,_=>none
section
variable {P:Program} {owns:ij} {ts:Trees}
theorem ark {st:St}{r:ResultVar}{q:RV}{x:AW}(h:Ic P r=some q)(hx:Cr st q=some x):Ep P st r=some x:=by
 cases r with
 |tmp t=>simp only[Ic,aA] at h;subst h;exact hx
 |cell p ty=>
  simp only[Ic] at h;split at h
  ·rename_i n d hn hd;simp only[Ep,hn,hd];split at h
   ·rename_i hr;simp only[aA] at h;subst h;rw[aj hr];simp only[Cr] at hx;split at hx
    ·rename_i cs hc;rw[hc];exact hx
    ·cases hx
   ·rename_i hr;simp only[aA] at h;subst h;rw[af hr];simp only[Cr] at hx;split at hx
    ·rename_i c hc;rw[hc];exact hx
    ·cases hx
  ·cases h
theorem XQ {st:St}:∀{rs:List ResultVar} {qs:List RV} {xs:List AW},vq P rs=some qs->Ao st qs=some xs->yA P st rs=some xs
 |[],qs,xs,h,hx=>by simp only[vq,aA] at h;subst h;exact hx
 |r::rs,qs,xs,h,hx=>by
  unfold vq at h;split at h
  ·rename_i q l h1 h2;simp only[aA] at h;subst h;unfold Ao at hx;split at hx
   ·rename_i x l' g1 g2;simp only[aA] at hx;subst hx;unfold yA;rw[ark h1 g1,XQ h2 g2]
   ·cases hx
  ·cases h
def Sl (rv:List RV)(Q:AV->Prop):gV->St->Prop
 | .exit _,_=>False
 |_,st=>∃xs,Ao st rv=some xs/\Q (ek xs)
theorem afe (hE:∀p∈owns.eqs,sI P p.1 p.2){f:FuncId}{fn:Func}{c:Code}{b:fA}(hf:P.funcs[f]? =some fn)(hb:fn.body=some c)(ht:ik P owns fn.ntmps ts c=some b)(rv:List RV)(pN:vq P fn.results.toList=some rv)(args:List AW)(Cn:Nat.ble args.length fn.ntmps=true)(vs ss:List Nat){Q:AV->Prop}
  (h:aP (lift P b) (Sl rv Q) ⟨V0 args 0 vs,[],S0 ss⟩):bj P f args Q:=
 arf hE hf hb ht args (tB Cn) vs ss (vp (fun e st he=>by
  cases e with
  |normal=>obtain⟨xs,h1,h2⟩:=he;exact⟨trivial,xs,XQ pN h1,h2⟩
  |exit id=>exact he.elim
  |ret=>obtain⟨xs,h1,h2⟩:=he;exact⟨trivial,xs,XQ pN h1,h2⟩) h)
variable {Q:gV->St->Prop} {V L:List (Nat×AV)} {S:List (Nat×Slot)} {st:St} {x y z:fA}
variable {D U:List Nat} {K:St->Prop} {b e i id j k:Nat} {d:Option Nat} {f:FuncId} {l r:List BO} {p q:aQ} {st st':St} {t ti tj:OT} {tl:List AO} {ws:List AW} {ys:List aQ}
theorem Ey{U:Option (List Nat)}{s g:Nat}{u v:aQ}{es ys:List (List AC)}(hx:st.arg u=some (.w (.c (.own s g))))(hs:aJ st.S s=some (.row e k g es))(hy:st.rows [s] (st.arg v)=some ys)(hk:∀row∈ys,row.length=k)(hl:es.length+ys.length<=100000000)(hU:qZ U s=true)
  (hst:(st.cr s (.row e k (g+1) (es++ys))).eR d (.w (.c (.own s (g+1))))=st') (h:bB U (r.map (BO.ao P)) K st'):bB U ((⟨d,none,.app e k u v⟩::r:List BO).map (BO.ao P)) K st:=by
 subst hst;refine bl ?_ h
 have hw:dD U st (.app e k u v)=some (.w (.c (.own s (g+1))),st.cr s (.row e k (g+1) (es++ys))):=by
  unfold dD;dsimp only;rw[hx];dsimp only;rw[hs];dsimp only;rw[hy];dsimp only;rw[aj ⟨⟨rfl,rfl,rfl⟩,hk,hl,hU⟩]
 unfold nf;dsimp only;rw[hw];rfl
theorem aff{U:Option (List Nat)}{x:AV}{t:Nat}{want:Bool}(hg:st.sc (.t t)=some (.bool want))(ha:oU st ys=some ws)(hC:bj P f ws (fun y=>y=x))(hr:bB U (r.map (BO.ao P)) K (st.eR d x)):
  bB U ((⟨d,some (t,want),.call f ys⟩::r:List BO).map (BO.ao P)) K st:=by
 show(match lS (st.arg (.t t)) want with
  |some true=>_
  |some false=>_
  |none=>False)
 have hw:lS (st.arg (.t t)) want=some true:=by
  unfold St.sc GN at hg;split at hg
  ·rename_i u hu;rw[hu];cases hg;cases want<;>rfl
  ·cases hg
 rw[hw];exact⟨ws,_,ha,hC,fun y hy=>by rw[hy];exact hr⟩
theorem afg{U:Option (List Nat)}{n:Nat}{x:aQ}(hx:nf U (pJ D st) ⟨d,none,.store n p x⟩=some st')(hK:K st'):sG U ((⟨d,none,.qY D n p x⟩:BO).ao P) K st:=by
 unfold nf at hx;dsimp only at hx;rw[bU] at hx;obtain⟨⟨y,st2⟩,h1,h2⟩:=hx;exact XO (P:=P) (X:=fun x st2=>K (st2.mz ((⟨d,none,.qY D n p _⟩:BO).ao P) x)) h1 (by rw[Si];dsimp only at h2⊢;rw[h2];exact hK)
theorem afh{U:Option (List Nat)}{n:Nat}(hx:nf U (pJ D st) ⟨d,none,.store n p q⟩=some st')(h:bB U (r.map (BO.ao P)) K st'):bB U ((⟨d,none,.qY D n p q⟩::r:List BO).map (BO.ao P)) K st:=afg hx h
theorem k_reg(h:bB none (l.map (BO.ao P)) (fun st=>aP (lift P y) Q st) ⟨V,[],S⟩):aP (lift P (.seq (.region l) y)) Q ⟨V,L,S⟩:=h
theorem Ap(h:bB none (l.map (BO.ao P)) (fun st=>Q .normal st) ⟨V,[],S⟩):aP (lift P (.region l)) Q ⟨V,L,S⟩:=h
theorem iB(h:aP (lift P (.seq x (.seq y z))) Q st):aP (lift P (.seq (.seq x y) z)) Q st:=vp (c:=x) (fun e st' he=>by
 cases e with
 |normal=>exact he
 |exit id=>exact he
 |ret=>exact he) h
theorem lU{t:aQ}(b:Bool)(hb:st.sc t=some (.bool b))(h:aP (lift P (.seq (bif b then x else y) z)) Q st):aP (lift P (.seq (.cond t x y) z)) Q st:=Sj (x:=x) (y:=y) hb (by cases b<;>exact h)
theorem Ez{t:aQ}(b:Bool)(hb:st.sc t=some (.bool b))(h:aP (lift P (bif b then x else y)) Q st):aP (lift P (.cond t x y)) Q st:=Sj (x:=x) (y:=y) hb (by cases b<;>exact h)
theorem tP(h:aP (lift P z) Q st):aP (lift P (.seq .skip z)) Q st:=h
theorem Cs(h:Q (.exit id) st):aP (lift P (.seq (.exit id) z)) Q st:=h
theorem Sn(h:Q (.exit id) st):aP (lift P (.exit id)) Q st:=h
theorem Aq(h:Q .ret st):aP (lift P (.seq .ret z)) Q st:=h
theorem oW(h:Q .ret st):aP (lift P .ret) Q st:=h
theorem xg(h:aP (lift P x) (mD id (lT (fun st=>aP (lift P z) Q st) Q)) st):aP (lift P (.seq (.block id x) z)) Q st:=h
theorem Sp(h:aP (lift P x) (mD id Q) st):aP (lift P (.block id x)) Q st:=h
theorem dA{c:fA}(I:Nat->List (Nat×AV)->List (Nat×Slot)->Prop){n:Nat}(h0:I n V S)(hr:∀n V L S,I n V S->aP (lift P c) (lT (fun st'=>∃m,m<n/\I m st'.V st'.S) Q) ⟨V,L,S⟩):aP (lift P (.loop c)) Q ⟨V,L,S⟩:=
 arj (fun n st=>I n st.V st.S) h0 fun n st h=>hr n st.V st.L st.S h
theorem XR{s:Nat}(hs:st.freeze s=st')(h:aP (lift P (.seq x z)) Q st'):aP (lift P (.seq (.mC s x) z)) Q st:=by subst hs;exact h
theorem afi{off s:Nat}(hs:st.mB b off s e k=st')(h:aP (lift P (.seq x z)) Q st'):aP (lift P (.seq (.pL b off s e k x) z)) Q st:=by subst hs;exact h
theorem XS{off s:Nat}(hs:st.mB b off s e k=st')(h:aP (lift P x) Q st'):aP (lift P (.pL b off s e k x)) Q st:=by subst hs;exact h
theorem XT{s:Nat}(hs:st.freeze s=st')(h:aP (lift P x) Q st'):aP (lift P (.mC s x)) Q st:=by subst hs;exact h
theorem yE{n:Nat}(h:aW U (l.map (BO.ao P)) ((l.drop n).map (BO.ao P)) (fun st=>aP (lift P y) Q st) t false ⟨V,[],S⟩):aP (lift P (.seq (.tM l n t U) y)) Q ⟨V,L,S⟩:=by
 rw[List.map_drop] at h;exact h
theorem KT{n:Nat}(h:aW U (l.map (BO.ao P)) ((l.drop n).map (BO.ao P)) (fun st=>Q .normal st) t false ⟨V,[],S⟩):aP (lift P (.tM l n t U)) Q ⟨V,L,S⟩:=by
 rw[List.map_drop] at h;exact h
def EA (U:List Nat)(st:St)(b:BO)(bu:Bool):Option St:=match cC b.op with
 |none=>none
 |some (mem,ev)=>if mem=true/\bu=true then none else match b.g with
  |none=>(ev st U).map fun x=>st.eR b.d x
  |some (t,want)=>match lS (st.arg (.t t)) want with
   |some true=>(ev st U).map fun x=>st.eR b.d x
   |some false=>some (st.eR b.d (.bP []))
   |none=>none
theorem rf{bu:Bool}{b:BO}(hi:l[i]? =some b)(hx:EA U st b bu=some st')(h:aW U (l.map (BO.ao P)) tl K t bu st'):aW U (l.map (BO.ao P)) tl K (.take i t) bu st:=by
 obtain⟨d,g,op⟩:=b;unfold EA at hx;dsimp only at hx;split at hx
 ·cases hx
 rename_i mem ev aI;split at hx
 ·cases hx
 rename_i hm;unfold aW;rw[fD,hi]
 show(match cC op with
  |none=>False
  |some (mem,ev)=>_)
 rw[aI];refine⟨fun h1=>by cases bu<;>simp_all,?_⟩
 cases g with
 |none=>
  dsimp only at hx;rw[bU] at hx;obtain⟨x,hx,rfl⟩:=hx;exact⟨x,hx,h⟩
 |some p=>
  obtain⟨tt,want⟩:=p;dsimp only at hx
  change (match lS (st.arg (.t tt)) want with
   |some true=>_
   |some false=>_
   |none=>False)
  split at hx
  ·rw[bU] at hx;obtain⟨x,hx,rfl⟩:=hx;exact⟨x,hx,h⟩
  ·simp only[aA] at hx;subst hx;exact h
  ·cases hx
theorem yF{l:List AO}{bu:Bool}(h1:aW U l tl K (.move i ti) bu st)(h2:aW U l tl K (.move j tj) bu st):aW U l tl K (.fork i j ti tj) bu st:=⟨h1,h2⟩
theorem EB{l:List AO}{tk:OT}{bu:Bool}(h1:aW U l tl K (.move i ti) bu st)(h2:aW U l tl K (.move j tj) bu st)(h3:aW U l tl K (.move k tk) bu st):aW U l tl K (.wR i j k ti tj tk) bu st:=⟨h1,h2,h3⟩
theorem vw{l:List AO}{bu:Bool}(h:bB none tl K st):aW U l tl K .nil bu st:=h
theorem KU{bu:Bool}{b:BO}(hi:l[i]? =some b)(hx:nf (some U) st b=some st')(h:aW U (l.map (BO.ao P)) tl K t true st'):aW U (l.map (BO.ao P)) tl K (.move i t) bu st:=by
 unfold aW;rw[fD,hi];exact afb hx h
theorem afj{bu:Bool}{n:Nat}(hi:l[i]? =some ⟨d,none,.qY D n p q⟩)(hx:nf (some U) (pJ D st) ⟨d,none,.store n p q⟩=some st')(h:aW U (l.map (BO.ao P)) tl K t true st'):aW U (l.map (BO.ao P)) tl K (.move i t) bu st:=by
 unfold aW;rw[fD,hi];exact afg hx h
theorem Ie{bu:Bool}{x:AV}(hi:l[i]? =some ⟨d,none,.call f ys⟩)(ha:oU st ys=some ws)(hC:bj P f ws (fun y=>y=x))(h:aW U (l.map (BO.ao P)) tl K t true (st.eR d x)):
  aW U (l.map (BO.ao P)) tl K (.move i t) bu st:=by
 unfold aW;rw[fD,hi];exact⟨ws,_,ha,hC,fun y hy=>by rw[hy];exact h⟩
theorem kJ{rv:List RV}{Q:AV->Prop}{xs:List AW}(h:Ao st rv=some xs)(hQ:Q (ek xs)):Sl rv Q .ret st:=⟨xs,h,hQ⟩
end
variable {a b:Int} {k:Nat}
@[simp] theorem aFG(x:Value):inl (.v x)=true:=rfl
@[simp] theorem aFH(es:List (List AC)):inl (.sl es)=true:=rfl
@[simp] theorem aFI(s g:Nat):inl (.own s g)=false:=rfl
@[simp] theorem aFJ(st:St)(x:Value):st.fz (.v x)=some (.v x):=rfl
@[simp] theorem aFK(st:St)(es:List (List AC)):st.fz (.sl es)=some (.sl es):=rfl
@[simp] theorem aFL(st:St)(s g:Nat):st.fz (.own s g)=match st.slot s with
  | .row _ k g' es=>if g=g'/\0<k then some (.sl es) else none
  |_=>none:=rfl
@[simp] theorem aFM(k:IntKind)(a b:Int):aZ .eql (.int k a) (.int k b)=some (.bool (decide (a=b))):=by simp[aZ]
@[simp] theorem aFN(k:IntKind)(a b:Int):aZ .neq (.int k a) (.int k b)=some (.bool (decide (a≠b))):=by simp[aZ]
@[simp] theorem aFO(k:IntKind)(a b:Int):aZ .lss (.int k a) (.int k b)=some (.bool (decide (a<b))):=by simp[aZ]
@[simp] theorem aFP(k:IntKind)(a b:Int):aZ .leq (.int k a) (.int k b)=some (.bool (decide (a<=b))):=by simp[aZ]
@[simp] theorem aFQ(k:IntKind)(a b:Int):aZ .gtr (.int k a) (.int k b)=some (.bool (decide (b<a))):=by simp[aZ]
@[simp] theorem aFR(k:IntKind)(a b:Int):aZ .geq (.int k a) (.int k b)=some (.bool (decide (b<=a))):=by simp[aZ]
theorem wrap64{n:Int}(h1: -9223372036854775808<=n)(h2:n<=9223372036854775807):IntKind.i64.wrap n=n:=by
 simp only[IntKind.wrap,IntKind.signed,IntKind.bits];simp;omega
theorem oX(h1: -9223372036854775808<=a+b)(h2:a+b<=9223372036854775807):aZ .add (.int .i64 a) (.int .i64 b)=some (.int .i64 (a+b)):=by simp[aZ,wrap64 h1 h2]
theorem Ct(h1: -9223372036854775808<=a-b)(h2:a-b<=9223372036854775807):aZ .sub (.int .i64 a) (.int .i64 b)=some (.int .i64 (a-b)):=by simp[aZ,wrap64 h1 h2]
theorem arl(h1: -9223372036854775808<=a*b)(h2:a*b<=9223372036854775807):aZ .mul (.int .i64 a) (.int .i64 b)=some (.int .i64 (a*b)):=by simp[aZ,wrap64 h1 h2]
theorem afk(h0:b≠0)(h1: -9223372036854775808<=a.tdiv b)(h2:a.tdiv b<=9223372036854775807):aZ .quo (.int .i64 a) (.int .i64 b)=some (.int .i64 (a.tdiv b)):=by simp[aZ,wrap64 h1 h2,h0]
theorem Of(h0:b≠0):aZ .rem (.int .i64 a) (.int .i64 b)=some (.int .i64 (a.tmod b)):=by simp[aZ,h0]
theorem bT(h:k<=1000000000):aZ .add (.int .i64 (k:Int)) (.int .i64 1)=some (.int .i64 ((k+1:Nat):Int)):=by
 rw[oX ab ab];rfl
@[simp ↓] theorem aFS{α:Type}{f:α->List AC}{l:List α}:(∀row∈l.map f,row.length=k)↔∀x∈l,(f x).length=k:=List.forall_mem_map
@[simp] theorem aFT(g:Nat):(Slot.dead g).gen=g:=rfl
@[simp] theorem aFU(g:Nat)(cs:List AC):(Slot.box g cs).gen=g:=rfl
@[simp] theorem aFV(e k g:Nat)(es:List (List AC)):(Slot.row e k g es).gen=g:=rfl
attribute [simp] RY Ho RX RZ
attribute [simp] pJ St.freeze mapA yx RU mA pI nf lS dD cC EA St.get St.arg St.sc GN aJ qI St.put St.eR St.slot St.cr St.cells St.rows AW.cells AV.shift oU AW.inl qR nL Ao Cr St.qX St.jY ek lT mD Sl qZ afa NN St.store Em xa NM Ek RF
def St.pO (D:List Nat)(st:St):AC->Option AC
 | .own s g=>if s∈D then some (.own s g) else st.fz (.own s g)
 | .cK s g=>if s∈D then some (.cK s g) else none
 | .part s g i=>if s∈D then some (.part s g i) else none
 | .cls f cn=>if lR D (.cls f cn)=true then some (.cls f cn) else none
 | .v x=>some (.v x)
 | .sl es=>some (.sl es)
 | .fV f cn=>some (.fV f cn)
def St.kK (D:List Nat)(st:St):List AC->Option (List AC)
 |[]=>some []
 |x::l=>match st.pO D x,st.kK D l with
  |some y,some r=>some (y::r)
  |_,_=>none
def St.vx (D:List Nat)(st:St):AW->Option AW
 | .c x=>(st.pO D x).map .c
 | .agg cs=>(st.kK D cs).map .agg
def Ar (D:List Nat)(st:St):RV->Option AW
 | .t i=>match st.get i with
  |some (.w x)=>st.vx D x
  |_=>none
 | .cell p n=>match st.cells [] n (st.get p) with
  |some cs=>st.vx D (.agg cs)
  |none=>none
 | .cell1 p=>match st.cells [] 1 (st.get p) with
  |some [c]=>st.vx D (.c c)
  |_=>none
def vy (D:List Nat)(st:St):List RV->Option (List AW)
 |[]=>some []
 |r::l=>match Ar D st r,vy D st l with
  |some x,some q=>some (x::q)
  |_,_=>none
def eZ (D:List Nat)(S:Nat->Slot)(s:Nat):Slot:=if s∈D then S s else .dead 0
section
variable {P:Program} {owns:ij} {ts:Trees} {N:Nat} {F M:Nat->Prop} {w0:lj} {w:World} {st:St} {G:Nat->Gh} {H:Nat->Value} {a:Act}
variable {D:List Nat} {K:St->Prop} {R:AV->(Nat->Slot)->Prop} {d:Option Nat} {f:FuncId} {ws:List AV} {x:AW} {ys:List aQ}
theorem Og{S:Nat->Slot}(s b:Nat):bq (eZ D S) G H s b↔s∈D/\bq S G H s b:=by
 unfold bq eZ;by_cases h:s∈D<;>simp[h]
theorem XU{S:Nat->Slot}{b:Nat}(h:aV M (eZ D S) G H b):aV M S G H b:=by
 rcases h with hm|⟨s,hl⟩
 ·exact .inl hm
 ·exact .inr ⟨s,((Og s b).1 hl).2⟩
theorem Rel.pO(h:Rel N F M w0 st G H a w){x y:AC}{u:Value}(hx:CR w (aV M st.slot G H) st.slot G H x u)(hf:st.pO D x=some y):CR w (aV M (eZ D st.slot) G H) (eZ D st.slot) G H y u/\lR D y=true:=by
 have qW:∀{z:AC} {v:Value},IR w (aV M st.slot G H) z v->IR w (aV M (eZ D st.slot) G H) z v:=fun hz=>hz.mono ax (fun b _ hb=>XU hb) (fun _ _ _=>rfl)
 cases x with
 |v x=>simp only[St.pO,aA] at hf;subst hf;exact⟨qW hx,rfl⟩
 |sl es=>simp only[St.pO,aA] at hf;subst hf;exact⟨qW hx,rfl⟩
 |fV f cn=>simp only[St.pO,aA] at hf;subst hf;exact⟨qW hx,rfl⟩
 |cK s g=>
  simp only[St.pO] at hf;split at hf
  case isFalse=>cases hf
  rename_i hs;simp only[aA] at hf;subst hf;obtain⟨h1,h2,h3⟩:=hx
  have e:eZ D st.slot s=st.slot s:=by unfold eZ;rw[aj hs]
  exact⟨⟨h1,by rw[e];exact h2,fun K he=>h3 K (by rw[<-e];exact he)⟩,by simpa [lR] using hs⟩
 |part s g i=>
  simp only[St.pO] at hf;split at hf
  case isFalse=>cases hf
  rename_i hs;simp only[aA] at hf;subst hf;obtain⟨h1,h2,h3⟩:=hx
  have e:eZ D st.slot s=st.slot s:=by unfold eZ;rw[aj hs]
  exact⟨⟨h1,by rw[e];exact h2,fun K he=>h3 K (by rw[<-e];exact he)⟩,by simpa [lR] using hs⟩
 |cls f cn=>
  simp only[St.pO] at hf;split at hf
  case isFalse=>cases hf
  rename_i hs;simp only[aA] at hf;subst hf;obtain⟨ps,h1,h2,h3⟩:=hx;refine⟨⟨ps,h1,h2,fun i q p e1 e2=> ?_⟩,hs⟩
  have hq:q.1∈D:=by
   have h4:cn.all (fun q=>D.contains q.1)=true:=hs;have:=fE.1 h4 q (eI e1);simpa using this
  have e:eZ D st.slot q.1=st.slot q.1:=by unfold eZ;rw[aj hq]
  obtain⟨h4,h5⟩:=h3 i q p e1 e2;exact⟨by rw[e];exact h4,fun cs he=>h5 cs (by rw[<-e];exact he)⟩
 |own s g=>
  simp only[St.pO] at hf;split at hf
  ·rename_i hs;simp only[aA] at hf;subst hf;obtain⟨h1,h2,h3⟩:=hx
   have e:eZ D st.slot s=st.slot s:=by unfold eZ;rw[aj hs]
   exact⟨⟨h1,by rw[e];exact h2,fun e' k es he=>h3 e' k es (by rw[<-e];exact he)⟩,by simpa [lR] using hs⟩
  ·rename_i hs;simp only[St.fz] at hf;split at hf
   case h_2=>cases hf
   rename_i e k g' es bF;split at hf
   case isFalse=>cases hf
   rename_i hg;obtain⟨rfl,aX⟩:=hg;simp only[aA] at hf;subst hf;refine⟨?_,rfl⟩;obtain⟨_,_,hH⟩:=hx;have hu:=hH e k es bF;subst hu;obtain⟨hn,xs,how,lQ⟩:=h.rw s e k g es bF;have hl:=how.1
   rcases how.2 with⟨e1,e2⟩|⟨gg,cap,cur,e1,_,RG,ou,Cm,_,_⟩
   ·have h0:es=[]:=yb e2;subst h0;rw[e1];exact IR.sl 0 [] none 0 (fun _ _=>undef) ax ai (by intro i row h;simp at h) (by intro i row j x h;simp at h) (by intro i row j h;simp at h)
   ·rw[e1];have hcell:=how.cells (g:=gg) (by rw[e1];rfl)
    have aT:(H s).ownBlock=some gg:=by rw[e1];rfl
    have Xq:¬aV M (eZ D st.slot) G H gg:=fun hh=>by
     rcases hh with hm|⟨s',iy⟩
     ·exact(hn gg aT).2 hm
     ·obtain⟨d1,l1⟩:=(Og s' gg).1 iy;have:=h.dj s' s gg l1 (.inr (.inl ⟨e,k,g,es,bF,aT⟩));subst this;exact hs d1
    exact NR rfl (lQ.map fun x u hx=>qW hx) hl Xq ou (by simp only[maxLen] at Cm;omega) (fun j u hj=>by
     have:=hcell j u hj
     rwa[Addr.add_mid,eP] at this)
theorem Rel.kK(h:Rel N F M w0 st G H a w):∀{cs r:List AC} {us:List Value},cH w (aV M st.slot G H) st.slot G H cs us->st.kK D cs=some r->cH w (aV M (eZ D st.slot) G H) (eZ D st.slot) G H r us/\r.all (lR D)=true
 |[],r,us,hc,hr=>by
  simp only[St.kK,aA] at hr;subst hr;exact⟨⟨hc.1,fun j x u e=>by simp at e⟩,rfl⟩
 |x::cs,r,us,hc,hr=>by
  unfold St.kK at hr;split at hr
  case h_2=>cases hr
  rename_i y q h1 h2;simp only[aA] at hr;subst hr
  cases us with
  |nil=>have:=hc.1;simp at this
  |cons u us=>
   have hc':cH w (aV M st.slot G H) st.slot G H cs us:=⟨by have:=hc.1;simpa using this,fun j x u e1 e2=>hc.2 (j+1) x u (by simpa using e1) (by simpa using e2)⟩
   obtain⟨g2,g1⟩:=Rel.kK h hc' h2;obtain⟨g3,g4⟩:=h.pO (hc.2 0 x u rfl rfl) h1;refine⟨⟨by have:=g2.1;simp[this],fun j z v e1 e2=> ?_⟩,by simp[g4,g1]⟩
   cases j with
   |zero=>
    simp at e1 e2;subst e1;subst e2;exact g3
   |succ j=>exact g2.2 j z v (by simpa using e1) (by simpa using e2)
theorem Rel.vx(h:Rel N F M w0 st G H a w){y:AW}{v:Value}(hx:WR w (aV M st.slot G H) st.slot G H x v)(hf:st.vx D x=some y):WR w (aV M (eZ D st.slot) G H) (eZ D st.slot) G H y v/\Ah D y=true:=by
 cases x with
 |c x=>
  simp only[St.vx,bU] at hf;obtain⟨z,hz,rfl⟩:=hf;obtain⟨h1,h2⟩:=h.pO hx hz;exact⟨h1,by simp[Ah,AW.cells,h2]⟩
 |agg cs=>
  simp only[St.vx,bU] at hf;obtain⟨z,hz,rfl⟩:=hf;obtain⟨arr,e,hc⟩:=hx;obtain⟨g1,g2⟩:=h.kK hc hz;exact⟨⟨arr,e,g1⟩,by simpa [Ah,AW.cells] using g2⟩
theorem Rel.rvM(h:Rel N F M w0 st G H a w){r:ResultVar}{q:RV}(hq:Ic P r=some q)(hr:Ar D st q=some x):∃v,(xf a.tmps r).run P w=.ok v w/\WR w (aV M (eZ D st.slot) G H) (eZ D st.slot) G H x v/\Ah D x=true:=by
 cases r with
 |tmp t=>
  simp only[Ic,aA] at hq;subst hq;simp only[Ar] at hr;split at hr
  case h_2=>cases hr
  rename_i y hy;exact⟨_,rfl,h.vx (h.tm t _ hy) hr⟩
 |cell p ty=>
  simp only[Ic] at hq;split at hq
  case h_2=>cases hq
  rename_i n d hn hd;split at hq
  ·rename_i bg;simp only[aA] at hq;subst hq;simp only[Ar] at hr;split at hr
   case h_2=>cases hr
   rename_i cs hc
   cases hp:st.get p with
   |none=>rw[hp] at hc;simp at hc
   |some pv=>
    rw[hp] at hc;obtain⟨b,o,us,e1,hlt,_,yB,hcs,hl⟩:=h.cells (h.tm p pv hp) hc;refine⟨.agg us.toArray,?_,h.vx (x:=.agg cs) ⟨us,rfl,hcs⟩ hr⟩;simp only[xf,e1,asAddr,px,tD,rW];exact run_loadVar_mid w b o ty us d yB hd bg (by rw[hl];exact hn)
  ·rename_i bg;simp only[aA] at hq;subst hq;simp only[Ar] at hr;split at hr
   case h_2=>cases hr
   rename_i c hc
   cases hp:st.get p with
   |none=>rw[hp] at hc;simp at hc
   |some pv=>
    rw[hp] at hc;obtain⟨b,o,us,e1,hlt,_,yB,hcs,hl⟩:=h.cells (h.tm p pv hp) hc
    obtain⟨u,rfl⟩:∃u,us=[u]:=by
     match us,hl with
     |[u],_=>exact⟨u,rfl⟩
    refine⟨u,?_,h.vx (x:=.c c) (hcs.2 0 c u rfl rfl) hr⟩;have hcell:=yB 0 u rfl;rw[qA] at hcell
    have yu:(isAgg ty).run P w=.ok false w:=by
     unfold isAgg;rw[px,lG hd]
     cases d<;>first|rfl|(exact absurd rfl bg)
    simp[xf,e1,asAddr,loadVar,yu,hcell]
theorem Rel.afl(h:Rel N F M w0 st G H a w):∀{rs:List ResultVar} {qs:List RV} {xs:List AW},vq P rs=some qs->vy D st qs=some xs->∃vs:List Value,(rs.mapM (xf a.tmps)).run P w=.ok vs w/\vs.length=xs.length/\
  ∀(j:Nat) (x:AW) (v:Value),xs[j]? =some x->vs[j]? =some v->WR w (aV M (eZ D st.slot) G H) (eZ D st.slot) G H x v/\Ah D x=true
 |[],qs,xs,hq,hr=>by
  simp only[vq,aA] at hq;subst hq;simp only[vy,aA] at hr;subst hr;exact⟨[],ai,rfl,fun j x v e=>by simp at e⟩
 |r::rs,qs,xs,hq,hr=>by
  unfold vq at hq;split at hq
  case h_2=>cases hq
  rename_i q l g1 g2;simp only[aA] at hq;subst hq;unfold vy at hr;split at hr
  case h_2=>cases hr
  rename_i x l' h1 h2;simp only[aA] at hr;subst hr;obtain⟨v,e1,e2⟩:=h.rvM g1 h1;obtain⟨vs,e3,e4,e5⟩:=Rel.afl h g2 h2;refine⟨v::vs,by simp[Gw,e1,e3],by simp[e4],fun j y u k1 k2=> ?_⟩
  cases j with
  |zero=>simp at k1 k2;subst k1;subst k2;exact e2
  |succ j=>exact e5 j y u (by simpa using k1) (by simpa using k2)
def Sq (D:List Nat)(rv:List RV)(Q:AV->(Nat->Slot)->Prop):gV->St->Prop
 | .exit _,_=>False
 |_,st=>∃xs,vy D st rv=some xs/\(∀s∈D,fK D (st.slot s)=true)/\Q (ek xs) (eZ D st.slot)
def VM:List AV->Nat->List Nat->List (Nat×AV)
 |[],_,vs=>uV vs
 |a::r,k,vs=>(k,a)::VM r (k+1) vs
theorem afm:∀{args:List AV} {k:Nat} {vs:List Nat} {i:Nat} {x:AV},aJ (VM args k vs) i=some x->x=.u\/∃j,i=k+j/\args[j]? =some x
 |[],k,vs,i,x,h=> .inl (XN h)
 |a::r,k,vs,i,x,h=>by
  simp only[VM,aJ] at h;split at h
  ·rename_i hk;simp only[aA] at h;exact .inr ⟨0,hk.symm,by simp[h]⟩
  ·rcases afm h with h1|⟨j,h1,h2⟩
   ·exact .inl h1
   ·exact .inr ⟨j+1,ab,by simpa using h2⟩
theorem afn:∀(ss:List Nat) (s:Nat) (x:Slot),aJ (S0 ss) s=some x->x=.dead 0
 |[],s,x,h=>by simp[S0,aJ] at h
 |v::vs,s,x,h=>by
  simp only[S0,aJ] at h;split at h
  ·simp only[aA] at h;exact h.symm
  ·exact afn vs s x h
theorem afo {α:Type}:∀(l m:List (Nat×α)) (s:Nat),aJ (l++m) s=match aJ l s with
  |some x=>some x
  |none=>aJ m s
 |[],m,s=>rfl
 |(i,x)::l,m,s=>by
  simp only[List.cons_append,aJ,afo l m s];split<;>rfl
theorem XV {α:Type}:∀(T:List (Nat×α)) (s:Nat),aJ T s=none↔s∉T.map (·.1)
 |[],s=>by simp[aJ]
 |(i,x)::T,s=>by
  simp only[aJ,dJ,cA,not_or];by_cases h:i=s
  ·subst h;simp
  ·rw[af h,XV T s];exact⟨fun h1=>⟨fun e=>h e.symm,h1⟩,fun h1=>h1.2⟩
theorem afp(hE:∀p∈owns.eqs,sI P p.1 p.2){fn:Func}{c:Code}{b:fA}(hf:P.funcs[f]? =some fn)(hb:fn.body=some c)(ht:ik P owns fn.ntmps ts c=some b)(rv:List RV)(pN:vq P fn.results.toList=some rv)(args:List AV)(Cn:Nat.ble args.length fn.ntmps=true)(T:List (Nat×Slot))(vs ss:List Nat){Q:AV->(Nat->Slot)->Prop}
  (h:aP (lift P b) (Sq (T.map (·.1)) rv Q) ⟨VM args 0 vs,[],T++S0 ss⟩):iK P f args T Q:=by
 intro M w G H us bF hM hlen dV;have aFW:args.length<=fn.ntmps:=tB Cn;refine calls_of_wp hf hb ?_
 have jX:(St.mk (VM args 0 vs) [] (T++S0 ss)).slot=iJ T:=funext fun s=>by
  unfold St.slot iJ;dsimp only;rw[afo]
  cases h1:aJ T s with
  |some x=>rfl
  |none=>
   dsimp only
   cases h2:aJ (S0 ss) s with
   |none=>rfl
   |some x=>rw[afn ss s x h2];rfl
 have hlt:∀s b,bq (iJ T) G H s b->b<w.heap.size:=fun s b hl=>by
  rcases hl with⟨g,cs,h1,rfl⟩|⟨e,k,g,es,h1,h2⟩|⟨g,K,h1,h2⟩
  ·obtain⟨_,arr,h3,_⟩:=bF.bx s g cs h1;exact h3.lt
  ·obtain⟨_,xs,h3,_⟩:=bF.rw s e k g es h1;exact(h3.lt b h2).2
  ·exact K.lt (bF.ob s g K h1).2 b h2
 have hR:Rel fn.ntmps (fun b=>b<w.heap.size/\∀s,¬bq (iJ T) G H s b) M ⟨w,iJ T,G,H⟩ ⟨VM args 0 vs,[],T++S0 ss⟩ G H { tmps:=us.toArray++Array.replicate (fn.ntmps-us.toArray.size) undef,defers:=[] } w:=by
  refine⟨by simp;omega,rfl,⟨rfl,rfl,rfl,cP _,fun _ _=>rfl⟩,⟨fun s=>(by rw[jX];exact cP _),fun s e k g es hs _=>(by rw[jX] at hs;exact⟨⟨es,hs⟩,rfl⟩),fun s g cs hs _=>(by rw[jX] at hs;exact⟨⟨cs,hs⟩,rfl⟩),fun s g K hs _=>(by rw[jX] at hs;exact⟨⟨K,hs⟩,rfl,rfl⟩)⟩,⟨fun b hb=>hb.elim (·.1) (hM.1 b),hM.2⟩,fun i x hx=> ?_,
   fun s g cs hs=> ?_,fun s e k g es hs=> ?_,fun s g K hs=> ?_,by rw[jX];exact bF.dj⟩
  ·have sF:aJ (VM args 0 vs) i=some x:=by
    unfold St.get at hx;dsimp only at hx;split at hx
    ·rename_i v hv;rw[hv];exact hx
    ·simp[aJ] at hx
   rcases afm sF with rfl|⟨j,hj,hy⟩
   ·trivial
   ·rw[eP] at hj;subst hj;have hi:=(bN.1 hy).1;have hv:us[i]? =some (us[i]' ab):=cz ab;have hw:=dV i x _ hy hv
    have qN:(us.toArray++Array.replicate (fn.ntmps-us.toArray.size) undef).getD i undef=us[i]' ab:=by
     simp[Ng,Array.getElem?_append,show i<us.length by omega]
    rw[qN,jX];exact hw
  ·rw[jX] at hs⊢;obtain⟨g1,arr,g2,g3⟩:=bF.bx s g cs hs;exact⟨fun hh=>hh.2 s (.inl ⟨g,cs,hs,rfl⟩),g1,arr,g2,g3⟩
  ·rw[jX] at hs⊢;obtain⟨g1,xs,g2,g3⟩:=bF.rw s e k g es hs;exact⟨fun b hb=>⟨fun hh=>hh.2 s (.inr (.inl ⟨e,k,g,es,hs,hb⟩)),g1 b hb⟩,xs,g2,g3⟩
  ·rw[jX] at hs⊢;obtain⟨g1,g2⟩:=bF.ob s g K hs;exact⟨fun b hb=>⟨fun hh=>hh.2 s (.inr (.inr ⟨g,K,hs,hb⟩)),g1 b hb⟩,g2⟩
 refine aeL (aeX hE ht) hR h fun e st' G' H' a' w' hq bQ=> ?_
 have arn:∀s,aJ T s=none->s∉T.map (·.1):=fun s hs=>(XV T s).1 hs
 have fin:(∃xs,vy (T.map (·.1)) st' rv=some xs/\(∀s∈T.map (·.1),fK (T.map (·.1)) (st'.slot s)=true)/\Q (ek xs) (eZ (T.map (·.1)) st'.slot))->
   a'.defers=[]/\∃v,(results fn a'.tmps).run P w'=.ok v w'/\∃v' r S' G' H',Ending.returned v=.returned v'/\Q r S'/\VR w' (aV M S' G' H') S' G' H' r v'/\NT M S' G' H' w'/\RB ⟨w,iJ T,G,H⟩ S' G' H'/\
   Fr (fun b=>b<w.heap.size/\∀s,¬bq (iJ T) G H s b) w w'/\(∀s b,bq S' G' H' s b->(∃s0,bq (iJ T) G H s0 b)\/w.heap.size<=b)/\∀s,aJ T s=none->S' s=.dead 0:=by
  rintro⟨xs,cq,oV,hQ⟩;obtain⟨us',e1,e2,e3⟩:=bQ.afl pN cq;have hrun:=aeN (fn:=fn) e1
  have qW:∀{z:AC} {v:Value},IR w' (aV M st'.slot G' H') z v->IR w' (aV M (eZ (T.map (·.1)) st'.slot) G' H') z v:=fun hz=>hz.mono ax (fun b _ hb=>XU hb) (fun _ _ _=>rfl)
  have oY:∀s,s∈T.map (·.1)->eZ (T.map (·.1)) st'.slot s=st'.slot s:=fun s hs=>by unfold eZ;rw[aj hs]
  refine⟨bQ.df,_,hrun,_,ek xs,eZ (T.map (·.1)) st'.slot,G',H',rfl,hQ,?_,⟨fun s g cs hs=> ?_,fun s e k g es hs=> ?_,fun s g K hs=> ?_,fun s s' b h1 h2=>bQ.dj s s' b ((Og s b).1 h1).2 ((Og s' b).1 h2).2⟩,⟨fun s=> ?_,fun s e k g es hs hg=> ?_,fun s g cs hs hg=> ?_,fun s g K hs hg=> ?_⟩,bQ.fr,fun s b hl=> ?_,fun s hs=> ?_⟩
  ·match xs,us',e2,e3 with
   |[x],[u],_,e3=>exact(e3 0 x u rfl rfl).1
   |[],[],_,e3=>exact⟨[],rfl,rfl,fun j x u e=>by simp at e⟩
   |x::y::r,u::v::q,e2,e3=>
    have hne:¬(u::v::q).toArray.size=1:=ai;rw[dif_neg hne];exact⟨u::v::q,rfl,e2,fun j x u h1 h2=>(e3 j x u h1 h2).1⟩
  ·by_cases hd:s∈T.map (·.1)
   ·rw[oY s hd] at hs;obtain⟨_,g2,arr,g3,g4⟩:=bQ.bx s g cs hs;have hc:=oV s hd;rw[hs] at hc;refine⟨g2,arr,g3,g4.1,fun j x u h1 h2=> ?_⟩;have hx:=g4.2 j x u h1 h2;have yG:=fE.1 hc x (eI h1)
    cases x with
    |v x=>exact qW hx
    |sl es=>exact qW hx
    |fV f cn=>exact qW hx
    |cK s' g'=>
     have dP:s'∈T.map (·.1):=by simpa [lR] using yG
     obtain⟨q1,q2,q3⟩:=hx;exact⟨q1,by rw[oY s' dP];exact q2,fun K he=>by rw[oY s' dP] at he;exact q3 K he⟩
    |part s' g' i'=>
     have dP:s'∈T.map (·.1):=by simpa [lR] using yG
     obtain⟨q1,q2,q3⟩:=hx;exact⟨q1,by rw[oY s' dP];exact q2,fun K he=>by rw[oY s' dP] at he;exact q3 K he⟩
    |cls f cn=>
     obtain⟨ps,q1,q2,q3⟩:=hx;refine⟨ps,q1,q2,fun i q p e1 e2=> ?_⟩
     have hq:q.1∈T.map (·.1):=by
      have h4:cn.all (fun q=>(T.map (·.1)).contains q.1)=true:=yG;have:=fE.1 h4 q (eI e1);simpa using this
     obtain⟨q4,q5⟩:=q3 i q p e1 e2;exact⟨by rw[oY _ hq];exact q4,fun cs he=>by rw[oY _ hq] at he;exact q5 cs he⟩
    |own s' g'=>
     have dP:s'∈T.map (·.1):=by simpa [lR] using yG
     obtain⟨q1,q2,q3⟩:=hx;exact⟨q1,by rw[oY s' dP];exact q2,fun e k es he=>by rw[oY s' dP] at he;exact q3 e k es he⟩
   ·unfold eZ at hs;rw[af hd] at hs;cases hs
  ·by_cases hd:s∈T.map (·.1)
   ·rw[oY s hd] at hs;obtain⟨g1,ys,g3,g4⟩:=bQ.rw s e k g es hs;exact⟨fun b hb=>(g1 b hb).2,ys,g3,g4.map fun x u hx=>qW hx⟩
   ·unfold eZ at hs;rw[af hd] at hs;cases hs
  ·by_cases hd:s∈T.map (·.1)
   ·rw[oY s hd] at hs;obtain⟨g1,g2⟩:=bQ.ob s g K hs;exact⟨fun b hb=>(g1 b hb).2,K.mono g2 ax (fun b _ hb=>XU hb) (fun _ _ _=>rfl)⟩
   ·unfold eZ at hs;rw[af hd] at hs;cases hs
  ·by_cases hd:s∈T.map (·.1)
   ·rw[oY s hd];exact bQ.hs.gen s
   ·have hn:aJ T s=none:=(XV T s).2 hd
    show(iJ T s).gen<=_
    unfold iJ;rw[hn];exact BV _
  ·by_cases hd:s∈T.map (·.1)
   ·rw[oY s hd] at hs;exact bQ.hs.row s e k g es hs hg
   ·unfold eZ at hs;rw[af hd] at hs;cases hs
  ·by_cases hd:s∈T.map (·.1)
   ·rw[oY s hd] at hs;exact bQ.hs.box s g cs hs hg
   ·unfold eZ at hs;rw[af hd] at hs;cases hs
  ·by_cases hd:s∈T.map (·.1)
   ·rw[oY s hd] at hs;exact bQ.hs.obj s g K hs hg
   ·unfold eZ at hs;rw[af hd] at hs;cases hs
  ·have Cu:=(bQ.qK ((Og s b).1 hl).2).2.1;by_cases hb:b<w.heap.size
   ·left
    exact Gj fun hne=>Cu ⟨hb,fun s0 tQ=>hne ⟨s0,tQ⟩⟩
   ·right;omega
  ·unfold eZ;rw[af (arn s hs)]
 cases e with
 |normal=>exact fin hq
 |exit id=>exact hq.elim
 |ret=>exact fin hq
theorem aro{U:Option (List Nat)}{r:List BO}(ha:mY st ys=some ws)(hc:ws.all (iL D)=true)(hD:∀s∈D,(aJ st.S s).isSome=true/\fK D (st.slot s)=true)(hU:∀s∈D,yt U s)(hC:iK P f ws (gU st D) R)
  (hr:∀x S',R x S'->(iL D x=true/\∀s∈D,fK D (S' s)=true)/\bB U (r.map (BO.ao P)) K ((mZ D S' st).eR d x)):bB U ((⟨d,none,.nM f ys D⟩::r:List BO).map (BO.ao P)) K st:=⟨ws,R,ha,hc,hD,hU,hC,fun x S' hx=>hr x S' hx⟩
theorem arp{U:List Nat}{l:List BO}{tl:List AO}{i:Nat}{t:OT}{bu:Bool}(hi:l[i]? =some ⟨d,none,.nM f ys D⟩)(ha:mY st ys=some ws)(hc:ws.all (iL D)=true)
  (hD:∀s∈D,(aJ st.S s).isSome=true/\fK D (st.slot s)=true) (hU:∀s∈D,s∈U) (hC:iK P f ws (gU st D) R) (h:∀x S',R x S'->(iL D x=true/\∀s∈D,fK D (S' s)=true)/\aW U (l.map (BO.ao P)) tl K t true ((mZ D S' st).eR d x)):
  aW U (l.map (BO.ao P)) tl K (.move i t) bu st:=by
 unfold aW;rw[fD,hi];exact⟨ws,R,ha,hc,hD,hU,hC,fun x S' hx=>h x S' hx⟩
end
section
variable {P:Program} {Q:gV->St->Prop} {V L:List (Nat×AV)} {S:List (Nat×Slot)} {st:St} {x y z:fA}
variable {t:aQ}
theorem afq(hb:st.sc t=some (.bool true))(h:aP (lift P (.seq x z)) Q st):aP (lift P (.seq (.cond t x y) z)) Q st:=lU true hb h
theorem afr(hb:st.sc t=some (.bool false))(h:aP (lift P (.seq y z)) Q st):aP (lift P (.seq (.cond t x y) z)) Q st:=lU false hb h
theorem afs(hb:st.sc t=some (.bool true))(h:aP (lift P x) Q st):aP (lift P (.cond t x y)) Q st:=Ez true hb h
theorem aft(hb:st.sc t=some (.bool false))(h:aP (lift P y) Q st):aP (lift P (.cond t x y)) Q st:=Ez false hb h
theorem Sr(h:Q .normal st):aP (lift P .skip) Q st:=h
theorem afu{U:List Nat}{l:List AO}{l2:List BO}{n:Nat}{K:St->Prop}{bu:Bool}{r:List BO}(hr:l2.drop n=r)(h:bB none (r.map (BO.ao P)) K st):aW U l ((l2.drop n).map (BO.ao P)) K .nil bu st:=by subst hr;exact h
end
@[simp] theorem aFX (b:Bool):Ej .not (.bool b)=some (.bool !b):=rfl
theorem afv {a:Int}(h1: -9223372036854775807<=a)(h2:a<=9223372036854775807):Ej .neg (.int .i64 a)=some (.int .i64 (-a)):=by simp[Ej,wrap64 (n:= -a) ab ab]
@[simp] theorem aFY (k:IntKind)(a b:Int):GO true (.int k a) (.int k b)=some (.int k (max a b)):=by simp[GO]
@[simp] theorem aFZ (k:IntKind)(a b:Int):GO false (.int k a) (.int k b)=some (.int k (min a b)):=by simp[GO]
@[simp] theorem arq (a b:ByteArray):aZ .eql (.string a) (.string b)=some (.bool (a.toList==b.toList)):=rfl
theorem ars {a b:List UInt8}(h:a.length+b.length<=1000000000000):aZ .add (.string ⟨⟨a⟩⟩) (.string ⟨⟨b⟩⟩)=some (.string ⟨⟨a++b⟩⟩):=by
 have h1:¬(((⟨⟨a⟩⟩:ByteArray).size+(⟨⟨b⟩⟩:ByteArray).size:Nat):Int)>IntKind.i64.max:=by
  show¬((a.length+b.length:Nat):Int)>9223372036854775807
  omega
 show(if _ then none else _)=_
 rw[af h1];congr 2<;>(apply ByteArray.ext;simp)
@[simp] theorem art (a b:ByteArray):aZ .neq (.string a) (.string b)=some (.bool (!(a.toList==b.toList))):=rfl
def mE:List (Nat×Slot)->St->St
 |[],st=>st
 |(s,x)::l,st=>mE l (st.cr s x)
theorem XW:∀(l:List (Nat×Slot)) (S:List (Nat×Slot)) (D:List Nat) (S':Nat->Slot),(∀p∈l,S' p.1=p.2)->(∀s,s∈l.map (·.1)↔s∈D)->
  (S.map fun p=>if D.contains p.1 then(p.1,S' p.1) else p)=l.foldl (fun S p=>qI S p.1 p.2) S:=by
 intro l
 induction l with
 |nil=>
  intro S D S' _ hD
  have:∀s,D.contains s=false:=fun s=>by have:=hD s;simpa using this
  simp only[List.foldl_nil]
  conv=>rhs;rw[<-List.map_id S]
  apply Kh;intro p _;rw[this p.1];simp
 |cons q l ih=>
  intro S D S' h hD;obtain⟨s,x⟩:=q;have hx:S' s=x:=h (s,x) ai
  have iV:∀S:List (Nat×Slot),qI S s x=S.map fun p=>if p.1=s then(p.1,x) else p:=fun S=>by
   induction S with
   |nil=>rfl
   |cons p S ihS=>
    obtain⟨i,y⟩:=p;simp only[qI,dJ,ihS];split<;>rfl
  simp only[zP];rw[<-ih (qI S s x) (l.map (·.1)) S' (fun p hp=>h p (by simp[hp])) (fun _=>Iff.rfl),iV,List.map_map];apply Kh;intro p _;have hd:=hD p.1;simp only[dJ,cA] at hd;by_cases lV:p.1=s
  ·have:p.1∈D:=hd.1 (.inl lV);obtain⟨i,y⟩:=p;dsimp only at lV this;subst lV
   have hc:D.contains i=true:=by simpa using this
   simp only[Function.comp,nE,hc,hx];split<;>rfl
  ·by_cases hl:p.1∈l.map (·.1)
   ·have:p.1∈D:=hd.1 (.inr hl);simp[Function.comp,lV,this,hl]
   ·have:¬p.1∈D:=fun hh=>by rcases hd.2 hh with h|h;exact lV h;exact hl h
    simp[Function.comp,lV,this,hl]
theorem Oh:∀(l:List (Nat×Slot)) (st:St),mE l st=⟨st.V,st.L,l.foldl (fun S p=>qI S p.1 p.2) st.S⟩
 |[],_=>rfl
 |(s,x)::l,st=>by
  unfold mE;rw[Oh l];rfl
section
variable {P:Program}
variable {D:List Nat} {K:St->Prop} {Ys:List (Nat×Slot)} {d:Option Nat} {f:FuncId} {st st':St} {ws:List AV} {x0:AV} {ys:List aQ}
theorem XX{U:Option (List Nat)}{r:List BO}(ha:mY st ys=some ws)(hc:ws.all (iL D)=true)(hD:∀s∈D,(aJ st.S s).isSome=true/\fK D (st.slot s)=true)(hU:∀s∈D,qZ U s=true)
  (hC:iK P f ws (gU st D) (fun x S'=>x=x0/\∀p∈Ys,S' p.1=p.2)) (hY:Ys.map (·.1)=D) (hx:iL D x0=true) (dE:∀p∈Ys,fK D p.2=true) (hst:(mE Ys st).eR d x0=st') (h:bB U (r.map (BO.ao P)) K st'):
  bB U ((⟨d,none,.nM f ys D⟩::r:List BO).map (BO.ao P)) K st:=by
 refine aro ha hc hD (fun s hs=>Sh (hU s hs)) hC ?_;rintro x S' ⟨rfl,hS⟩;refine⟨⟨hx,fun s hs=> ?_⟩,?_⟩
 ·rw[<-hY] at hs;obtain⟨p,hp,rfl⟩:=dp.1 hs;rw[hS p hp];exact dE p hp
 ·have:mZ D S' st=mE Ys st:=by
   rw[Oh];unfold mZ;rw[XW Ys st.S D S' hS (fun s=>by rw[hY])]
  rw[this,hst];exact h
theorem afw{U:List Nat}{l:List BO}{tl:List AO}{i:Nat}{t:OT}{bu:Bool}(hi:l[i]? =some ⟨d,none,.nM f ys D⟩)(ha:mY st ys=some ws)(hc:ws.all (iL D)=true)
  (hD:∀s∈D,(aJ st.S s).isSome=true/\fK D (st.slot s)=true) (hU:∀s∈D,s∈U) (hC:iK P f ws (gU st D) (fun x S'=>x=x0/\∀p∈Ys,S' p.1=p.2)) (hY:Ys.map (·.1)=D) (hx:iL D x0=true) (dE:∀p∈Ys,fK D p.2=true) (hst:(mE Ys st).eR d x0=st') (h:aW U (l.map (BO.ao P)) tl K t true st'):
  aW U (l.map (BO.ao P)) tl K (.move i t) bu st:=by
 refine arp hi ha hc hD hU hC ?_;rintro x S' ⟨rfl,hS⟩;refine⟨⟨hx,fun s hs=> ?_⟩,?_⟩
 ·rw[<-hY] at hs;obtain⟨p,hp,rfl⟩:=dp.1 hs;rw[hS p hp];exact dE p hp
 ·have:mZ D S' st=mE Ys st:=by
   rw[Oh];unfold mZ;rw[XW Ys st.S D S' hS (fun s=>by rw[hY])]
  rw[this,hst];exact h
theorem aru{rv:List RV}{Q:AV->(Nat->Slot)->Prop}{xs:List AW}(h:vy D st rv=some xs)(hc:∀s∈D,fK D (st.slot s)=true)(hQ:Q (ek xs) (eZ D st.slot)):Sq D rv Q .ret st:=⟨xs,h,hc,hQ⟩
end
@[simp] theorem aGa (D:List Nat)(g:Nat):fK D (.dead g)=true:=rfl
@[simp] theorem aGb (D:List Nat)(e k g:Nat)(es:List (List AC)):fK D (.row e k g es)=true:=rfl
@[simp] theorem aGc (D:List Nat)(g:Nat)(cs:List AC):fK D (.box g cs)=cs.all (lR D):=rfl
@[simp] theorem aGd {α β:Type}(f:α->β)(l:List α):(l.map f).take l.length=l.map f:=by rw[nB ai]
attribute [simp] mY iL Ah lR gU mE VM vy Ar eZ iJ St.vx St.pO St.kK
def Ss (P:Program)(a:ij)(ops:Array Oper)(o:Oper):BO:=⟨o.dst,(match o.guard with
 |none=>none
 |some (j,want)=>match(ops[j]?).bind (·.dst) with
  |some t=>some (t,want)
  |none=>none),match Sd P a o with
 |some x=>x
 |none=> .mv (.t 0)⟩
def Oi (P:Program)(a:ij)(ops:Array Oper):List Oper->List BO
 |[]=>[]
 |o::l=>Ss P a ops o::Oi P a ops l
def jf (P:Program)(a:ij)(ts:Trees):Code->fA
 | .skip=> .skip
 | .ret=> .ret
 | .exit id=> .exit id
 | .seq x y=> .seq (jf P a ts x) (jf P a ts y)
 | .cond t x y=> .cond (match eo t with |some t=>t|none=> .t 0) (jf P a ts x) (jf P a ts y)
 | .block id c=> .block id (jf P a ts c)
 | .loop c=> .loop (jf P a ts c)
 | .region id ops d=>Oc ((aJ a.mC id).getD []) (Od ((aJ a.Xw id).getD []) (match d with
  |false=> .region (Oi P a ops ops.toList)
  |true=>match XJ ts id with
   |some (n,t,U)=> .tM (Oi P a ops ops.toList) n t U
   |none=> .skip))
 |_=> .skip
section
variable {P:Program} {a:ij} {N:Nat} {ts:Trees} {ops:Array Oper}
theorem arv {o:Oper}{b:BO}(h:Oe P a N ops o=some b):Ss P a ops o=b:=by
 unfold Oe at h;split at h
 ·cases h
 rename_i op hop;split at h
 case isFalse=>cases h
 split at h
 ·rename_i hg;simp only[aA] at h;subst h;simp[Ss,hg,hop]
 ·rename_i j want hg;split at h
  ·rename_i t ht;simp only[aA] at h;subst h;simp[Ss,hg,hop,ht]
  ·cases h
theorem XY:∀{os:List Oper} {l:List BO},Ew P a N ops os=some l->Oi P a ops os=l
 |[],l,h=>by
  simp only[Ew,aA] at h;subst h;rfl
 |o::os,l,h=>by
  unfold Ew at h;split at h
  ·rename_i b q h1 h2;simp only[aA] at h;subst h;simp[Oi,arv h1,XY h2]
  ·cases h
theorem arw:∀{c:Code} {b:fA},ik P a N ts c=some b->jf P a ts c=b:=by
 intro c
 induction c with
 |skip=>intro b h;simp only[ik,aA] at h;subst h;rfl
 |ret=>intro b h;simp only[ik,aA] at h;subst h;rfl
 |exit id=>intro b h;simp only[ik,aA] at h;subst h;rfl
 |seq x y yy yz=>
  intro b h;unfold ik at h;split at h
  ·rename_i p q h1 h2;simp only[aA] at h;subst h;simp only[jf,yy h1,yz h2]
  ·cases h
 |cond t x y yy yz=>
  intro b h;unfold ik at h;split at h
  ·rename_i u p q h0 h1 h2;simp only[aA] at h;subst h;simp only[jf,yy h1,yz h2,h0]
  ·cases h
 |block id c ih=>
  intro b h;simp only[ik,bU] at h;obtain⟨p,h1,rfl⟩:=h;simp only[jf,ih h1]
 |loop c ih=>
  intro b h;simp only[ik,bU] at h;obtain⟨p,h1,rfl⟩:=h;simp only[jf,ih h1]
 |region id ops d=>
  intro b h;unfold ik at h;split at h
  ·rename_i l hl
   cases d with
   |false=>
    simp only[aA] at h;subst h;simp only[jf,XY hl]
   |true=>
    dsimp only at h;split at h
    ·rename_i n t U ht;split at h
     ·simp only[aA] at h;subst h;simp only[jf,XY hl,ht]
     ·cases h
    ·cases h
  ·cases h
 |_=>intro b h;simp[ik] at h
end
def tk:Nat->Nat->OT->OT
 |_,0,t=>t
 |a,n+1,t=> .take a (tk (a+1) n t)
def tz (r n:Nat):Nat×Nat×OT×List Nat:=(r,n,tk 0 n .nil,[])
def tm (r n:Nat):Nat×Nat×OT×List Nat:=(r,n+1,tk 0 n (.move n .nil),[])
def aB (b:Nat)(l:List Nat):ij:=⟨b,l,[],[],cZ,[],[]⟩
def aO (l:List Nat):ij:=aB 0 l
def aN:ij:=aO []
def Oj (P:Program)(a:ij)(ts:Trees)(fn:Func):Bool:=(ik P a fn.ntmps ts (fn.body.getD .skip)).isSome && fn.body.isSome
theorem XZ {P:Program}{a:ij}{ts:Trees}{fn:Func}{b:fA}(h:Oj P a ts fn=true)(hb:jf P a ts (fn.body.getD .skip)=b):∃c,fn.body=some c/\ik P a fn.ntmps ts c=some b:=by
 unfold Oj at h
 cases hc:fn.body with
 |none=>rw[hc] at h;simp at h
 |some c=>
  rw[hc] at h hb;simp only[BQ,Option.isSome_some,Bool.and_true] at h hb;obtain⟨x,hx⟩:=Rj.1 h;exact⟨c,rfl,by rw[hx,<-hb,arw hx]⟩
section
variable {P:Program} {a:ij} {N:Nat} {ts:Trees} {ops:Array Oper}
variable {p q:fA} {x y:Code}
theorem evS(h1:jf P a ts x=p)(h2:jf P a ts y=q):jf P a ts (.seq x y)=.seq p q:=by subst h1 h2;rfl
theorem evB{id:Nat}(h1:jf P a ts x=p):jf P a ts (.block id x)=.block id p:=by subst h1;rfl
theorem evL(h1:jf P a ts x=p):jf P a ts (.loop x)=.loop p:=by subst h1;rfl
theorem evC{t:Operand}{u:aQ}(h1:jf P a ts x=p)(h2:jf P a ts y=q)(h0:eo t=some u:=by rfl):jf P a ts (.cond t x y)=.cond u p q:=by subst h1 h2;simp only[jf,h0]
end
variable {D:List Nat} {V:List (Nat×AV)} {b:fA} {f:FuncId} {fn:Func}
theorem cI{args:List AW}{Q:AV->Prop}{S:List (Nat×Slot)}(hf:Tryz.prog.funcs[f]? =some fn)(a:ij)(ts:Trees)(rv:List RV)(vs ss:List Nat)(k:aP (lift Tryz.prog b) (Sl rv Q) ⟨V,[],S⟩)
  (h:jf Tryz.prog a ts (fn.body.getD .skip)=b:=by first|(cbv;done)|(repeat' (first|apply evS|apply evB|apply evL|apply evC|(cbv;done)))) (ok:Oj Tryz.prog a ts fn=true:=by kernel_rfl) (pN:vq Tryz.prog fn.results.toList=some rv:=by kernel_rfl) (hE:a.eqs=cZ:=by exact rfl) (hn:Nat.ble args.length fn.ntmps=true:=by exact rfl) (hV:V0 args 0 vs=V:=by(dsimp only[V0,uV])<;>rfl) (hS:S0 ss=S:=by(dsimp only[S0])<;>rfl):bj Tryz.prog f args Q:=by
 subst hV hS;obtain⟨c,h1,h2⟩:=XZ ok h;exact afe (by rw[hE];exact Xu) hf h1 h2 rv pN args hn vs ss k
theorem rh{args:List AV}{T:List (Nat×Slot)}{Q:AV->(Nat->Slot)->Prop}{S:List (Nat×Slot)}(hf:Tryz.prog.funcs[f]? =some fn)(a:ij)(ts:Trees)(rv:List RV)(vs ss:List Nat)(k:aP (lift Tryz.prog b) (Sq D rv Q) ⟨V,[],S⟩)
  (h:jf Tryz.prog a ts (fn.body.getD .skip)=b:=by first|(cbv;done)|(repeat' (first|apply evS|apply evB|apply evL|apply evC|(cbv;done)))) (ok:Oj Tryz.prog a ts fn=true:=by kernel_rfl) (pN:vq Tryz.prog fn.results.toList=some rv:=by kernel_rfl) (hE:a.eqs=cZ:=by exact rfl) (hn:Nat.ble args.length fn.ntmps=true:=by exact rfl) (hV:VM args 0 vs=V:=by(dsimp only[VM,uV])<;>rfl) (hS:T++S0 ss=S:=by(dsimp only[S0,List.cons_append,List.nil_append])<;>rfl) (hD:T.map (·.1)=D:=by(dsimp only[List.map])<;>rfl):iK Tryz.prog f args T Q:=by
 subst hV hS hD;obtain⟨c,h1,h2⟩:=XZ ok h;exact afp (by rw[hE];exact Xu) hf h1 h2 rv pN args hn T vs ss k
theorem afx{P:Program}{U:Option (List Nat)}{d:Option Nat}{ys:List aQ}{r:List BO}{K:St->Prop}{st st':St}{ws:List AV}{x0:AV}{Ys:List (Nat×Slot)}{t:Nat}{want:Bool}(hg:lS (st.arg (.t t)) want=some true)(ha:mY st ys=some ws)(hc:ws.all (iL D)=true)(hD:∀s∈D,(aJ st.S s).isSome=true/\fK D (st.slot s)=true)(hU:∀s∈D,qZ U s=true)
  (hC:iK P f ws (gU st D) (fun x S'=>x=x0/\∀p∈Ys,S' p.1=p.2)) (hY:Ys.map (·.1)=D) (hx:iL D x0=true) (dE:∀p∈Ys,fK D p.2=true) (hst:(mE Ys st).eR d x0=st') (h:bB U (r.map (BO.ao P)) K st'):
  bB U ((⟨d,some (t,want),.nM f ys D⟩::r:List BO).map (BO.ao P)) K st:=by
 show(match lS (st.arg (.t t)) want with
  |some true=>_
  |some false=>_
  |none=>False)
 rw[hg];exact XX (d:=d) ha hc hD hU hC hY hx dE hst h
attribute [local irreducible] aP bB aW
def Su (b:BO):Bool:=match b.g,b.op with |none,.call ..=>false|none,.nM ..=>false|none,.qY ..=>false|_,.app ..=>false|_,_=>true
def isApp (b:BO):Bool:=match b.op with | .app ..=>true|_=>false
section
variable {P:Program} {Q:gV->St->Prop} {V L:List (Nat×AV)} {S:List (Nat×Slot)} {st:St} {x y z:fA}
end
variable {p:Prop}
theorem vz(h:p:=by(simp[FF]);(try rfl);(first|done|fail)):p:=h
theorem mF(h:p:=by(simp[FF]);(first|done|fail)):p:=h
theorem Ya(h:p:=by(simp[FF,dx,rowsOf,List.range,List.range.loop]);(try rfl);(first|done|fail)):p:=h
theorem afy(h:p:=by(simp[FF]);(first|done|exact⟨rfl,rfl,rfl⟩|rfl)):p:=h
theorem afz(h:p:=by(simp[St.mB,FF]);(first|done|exact⟨rfl,rfl,rfl⟩|rfl)):p:=h
theorem arx(h:p:=by(first|(simp[FF];done)|(simp[FF];omega))):p:=h
theorem vA(h:p:=by(simp[FF,<-List.map_take,<-List.map_drop]);(try rfl);(first|done|fail)):p:=h
theorem mG(h:p:=by(simp[FF,<-List.map_take,<-List.map_drop]);(first|done|fail)):p:=h
theorem Yb(h:p:=by(simp[FF,<-List.map_take,<-List.map_drop,dx,rowsOf,List.range,List.range.loop]);(try rfl);(first|done|fail)):p:=h
theorem afA(h:p:=by(simp[FF,<-List.map_take,<-List.map_drop]);(first|done|exact⟨rfl,rfl,rfl⟩|rfl)):p:=h
theorem afB(h:p:=by(simp[St.mB,FF,<-List.map_take,<-List.map_drop]);(first|done|exact⟨rfl,rfl,rfl⟩|rfl)):p:=h
theorem ary(h:p:=by(first|(simp[FF,<-List.map_take,<-List.map_drop];done)|(simp[FF,<-List.map_take,<-List.map_drop];omega))):p:=h
section
variable {U:Option (List Nat)}
variable {d:Option Nat}
variable {f:FuncId}
variable {ys:List aQ}
variable {r l l2:List BO}
variable {st':St}
variable {K:St->Prop}
variable {ws:List AW}
variable {x0:AV}
variable {t:OT}
variable {want bu:Bool}
variable {D:List Nat}
variable {Ys:List (Nat×Slot)}
variable {n e k s g i off:Nat}
variable {p q u v:aQ}
variable {es:List (List AC)}
variable {b:BO}
variable {tl:List AO}
variable {P:Program} {Q:gV->St->Prop} {V L:List (Nat×AV)} {S:List (Nat×Slot)} {st:St} {x y z:fA}
theorem yH {x:AV}(hC:bj P f ws (fun y=>y=x))(hr:bB U (r.map (BO.ao P)) K (st.eR d x))(ha:oU st ys=some ws:=by first|exact vz|fail):
  bB U ((⟨d,none,.call f ys⟩::r:List BO).map (BO.ao P)) K st:=Ex ha hC hr
theorem yI {x:AV}{t:Nat}(hC:bj P f ws (fun y=>y=x))(hr:bB U (r.map (BO.ao P)) K (st.eR d x))(hg:st.sc (.t t)=some (.bool want):=by first|exact mF|fail)(ha:oU st ys=some ws:=by first|exact vz|fail):
  bB U ((⟨d,some (t,want),.call f ys⟩::r:List BO).map (BO.ao P)) K st:=aff hg ha hC hr
theorem vB {ws:List AV}(hC:iK P f ws (gU st D) (fun x S'=>x=x0/\∀p∈Ys,S' p.1=p.2))(h:bB U (r.map (BO.ao P)) K st')(ha:mY st ys=some ws:=by first|exact vz|fail)(hc:ws.all (iL D)=true:=by first|exact mF|fail)(hD:∀s∈D,(aJ st.S s).isSome=true/\fK D (st.slot s)=true:=by first|exact mF|fail)(hU:∀s∈D,qZ U s=true:=by first|exact mF|fail)(hY:Ys.map (·.1)=D:=by exact rfl)(hx:iL D x0=true:=by first|exact mF|fail)(dE:∀p∈Ys,fK D p.2=true:=by first|exact mF|fail)(hst:(mE Ys st).eR d x0=st':=by first|exact vz|fail):
  bB U ((⟨d,none,.nM f ys D⟩::r:List BO).map (BO.ao P)) K st:=XX ha hc hD hU hC hY hx dE hst h
theorem vC {ws:List AV}{t:Nat}(hC:iK P f ws (gU st D) (fun x S'=>x=x0/\∀p∈Ys,S' p.1=p.2))(h:bB U (r.map (BO.ao P)) K st')(hg:lS (st.arg (.t t)) want=some true:=by first|exact mF|fail)(ha:mY st ys=some ws:=by first|exact vz|fail)(hc:ws.all (iL D)=true:=by first|exact mF|fail)(hD:∀s∈D,(aJ st.S s).isSome=true/\fK D (st.slot s)=true:=by first|exact mF|fail)(hU:∀s∈D,qZ U s=true:=by first|exact mF|fail)(hY:Ys.map (·.1)=D:=by exact rfl)(hx:iL D x0=true:=by first|exact mF|fail)(dE:∀p∈Ys,fK D p.2=true:=by first|exact mF|fail)(hst:(mE Ys st).eR d x0=st':=by first|exact vz|fail):
  bB U ((⟨d,some (t,want),.nM f ys D⟩::r:List BO).map (BO.ao P)) K st:=afx hg ha hc hD hU hC hY hx dE hst h
theorem Au (h:bB U (r.map (BO.ao P)) K st')(hx:nf U (pJ D st) ⟨d,none,.store n p q⟩=some st':=by first|exact vz|fail):
  bB U ((⟨d,none,.qY D n p q⟩::r:List BO).map (BO.ao P)) K st:=afh hx h
theorem Av {ys:List (List AC)}(h:bB U (r.map (BO.ao P)) K st')(hx:st.arg u=some (.w (.c (.own s g))):=by exact rfl)(hs:aJ st.S s=some (.row e k g es):=by exact rfl)(hy:st.rows [s] (st.arg v)=some ys:=by exact rfl)(hk:∀row∈ys,row.length=k:=by first|exact mF|fail)(hl:es.length+ys.length<=100000000:=by first|exact arx|fail)(hU:qZ U s=true:=by exact rfl)(hst:(st.cr s (.row e k (g+1) (es++ys))).eR d (.w (.c (.own s (g+1))))=st':=by first|exact vz|fail):
  bB U ((⟨d,none,.app e k u v⟩::r:List BO).map (BO.ao P)) K st:=Ey hx hs hy hk hl hU hst h
theorem Aw (hr:bB U (r.map (BO.ao P)) K st')(hp:Su b=true:=by exact rfl)(h:nf U st b=some st':=by first|exact Ya|fail):
  bB U ((b::r).map (BO.ao P)) K st:=bl h hr
theorem Ax {U:List Nat}(h:aW U (l.map (BO.ao P)) tl K t bu st')(hi:l[i]? =some b:=by exact rfl)(hx:EA U st b bu=some st':=by first|exact vz|fail):
  aW U (l.map (BO.ao P)) tl K (.take i t) bu st:=rf hi hx h
theorem yJ {U:List Nat}{x:AV}(hC:bj P f ws (fun y=>y=x))(h:aW U (l.map (BO.ao P)) tl K t true (st.eR d x))(hi:l[i]? =some ⟨d,none,.call f ys⟩:=by exact rfl)(ha:oU st ys=some ws:=by first|exact vz|fail):
  aW U (l.map (BO.ao P)) tl K (.move i t) bu st:=Ie hi ha hC h
theorem vD {U:List Nat}{ws:List AV}(hi:l[i]? =some ⟨d,none,.nM f ys D⟩)(hC:iK P f ws (gU st D) (fun x S'=>x=x0/\∀p∈Ys,S' p.1=p.2))(h:aW U (l.map (BO.ao P)) tl K t true st')(ha:mY st ys=some ws:=by first|exact vz|fail)(hc:ws.all (iL D)=true:=by first|exact mF|fail)(hD:∀s∈D,(aJ st.S s).isSome=true/\fK D (st.slot s)=true:=by first|exact mF|fail)(hU:∀s∈D,s∈U:=by first|exact mF|fail)(hY:Ys.map (·.1)=D:=by exact rfl)(hx:iL D x0=true:=by first|exact mF|fail)(dE:∀p∈Ys,fK D p.2=true:=by first|exact mF|fail)(hst:(mE Ys st).eR d x0=st':=by first|exact vz|fail):
  aW U (l.map (BO.ao P)) tl K (.move i t) bu st:=afw hi ha hc hD hU hC hY hx dE hst h
theorem Ay {U:List Nat}(h:aW U (l.map (BO.ao P)) tl K t true st')(hi:l[i]? =some ⟨d,none,.qY D n p q⟩:=by exact rfl)(hx:nf (some U) (pJ D st) ⟨d,none,.store n p q⟩=some st':=by first|exact vz|fail):
  aW U (l.map (BO.ao P)) tl K (.move i t) bu st:=afj hi hx h
theorem Az {U:List Nat}(h:aW U (l.map (BO.ao P)) tl K t true st')(hi:l[i]? =some b:=by exact rfl)(hp:Su b=true:=by exact rfl)(hx:nf (some U) st b=some st':=by first|exact Ya|fail):
  aW U (l.map (BO.ao P)) tl K (.move i t) bu st:=KU hi hx h
theorem AA {U:List Nat}(h:aW U (l.map (BO.ao P)) tl K t true st')(hi:l[i]? =some b:=by exact rfl)(hp:isApp b=true:=by exact rfl)(hx:nf (some U) st b=some st':=by first|exact Ya|fail):
  aW U (l.map (BO.ao P)) tl K (.move i t) bu st:=KU hi hx h
theorem AB {U:List Nat}{l:List AO}(h:bB none (r.map (BO.ao P)) K st)(hr:l2.drop n=r:=by simp only[qy,uN];(try rfl);(first|done|fail)):
  aW U l ((l2.drop n).map (BO.ao P)) K .nil bu st:=afu hr h
theorem zc1 {t:aQ}(h:aP (lift P (.seq x z)) Q st)(hb:st.sc t=some (.bool true):=by first|exact mF|fail):
  aP (lift P (.seq (.cond t x y) z)) Q st:=afq hb h
theorem zc2 {t:aQ}(h:aP (lift P (.seq y z)) Q st)(hb:st.sc t=some (.bool false):=by first|exact mF|fail):
  aP (lift P (.seq (.cond t x y) z)) Q st:=afr hb h
theorem zc3 {t:aQ}(h:aP (lift P x) Q st)(hb:st.sc t=some (.bool true):=by first|exact mF|fail):
  aP (lift P (.cond t x y)) Q st:=afs hb h
theorem zc4 {t:aQ}(h:aP (lift P y) Q st)(hb:st.sc t=some (.bool false):=by first|exact mF|fail):
  aP (lift P (.cond t x y)) Q st:=aft hb h
theorem zc5 (h:aP (lift P (.seq x z)) Q st')(hs:st.freeze s=st':=by first|exact afy|fail):
  aP (lift P (.seq (.mC s x) z)) Q st:=XR hs h
theorem zc6 (h:aP (lift P x) Q st')(hs:st.freeze s=st':=by first|exact afy|fail):
  aP (lift P (.mC s x)) Q st:=XT hs h
theorem zc7 {b:Nat}(h:aP (lift P (.seq x z)) Q st')(hs:st.mB b off s e k=st':=by first|exact afz|fail):
  aP (lift P (.seq (.pL b off s e k x) z)) Q st:=afi hs h
theorem zc8 {b:Nat}(h:aP (lift P x) Q st')(hs:st.mB b off s e k=st':=by first|exact afz|fail):
  aP (lift P (.pL b off s e k x)) Q st:=XS hs h
theorem arz {x:AV}(hC:bj P f ws (fun y=>y=x))(hr:bB U (r.map (BO.ao P)) K (st.eR d x))(ha:oU st ys=some ws:=by first|exact vA|fail):
  bB U ((⟨d,none,.call f ys⟩::r:List BO).map (BO.ao P)) K st:=Ex ha hC hr
theorem arA {x:AV}{t:Nat}(hC:bj P f ws (fun y=>y=x))(hr:bB U (r.map (BO.ao P)) K (st.eR d x))(hg:st.sc (.t t)=some (.bool want):=by first|exact mG|fail)(ha:oU st ys=some ws:=by first|exact vA|fail):
  bB U ((⟨d,some (t,want),.call f ys⟩::r:List BO).map (BO.ao P)) K st:=aff hg ha hC hr
theorem arB {ws:List AV}(hC:iK P f ws (gU st D) (fun x S'=>x=x0/\∀p∈Ys,S' p.1=p.2))(h:bB U (r.map (BO.ao P)) K st')(ha:mY st ys=some ws:=by first|exact vA|fail)(hc:ws.all (iL D)=true:=by first|exact mG|fail)(hD:∀s∈D,(aJ st.S s).isSome=true/\fK D (st.slot s)=true:=by first|exact mG|fail)(hU:∀s∈D,qZ U s=true:=by first|exact mG|fail)(hY:Ys.map (·.1)=D:=by exact rfl)(hx:iL D x0=true:=by first|exact mG|fail)(dE:∀p∈Ys,fK D p.2=true:=by first|exact mG|fail)(hst:(mE Ys st).eR d x0=st':=by first|exact vA|fail):
  bB U ((⟨d,none,.nM f ys D⟩::r:List BO).map (BO.ao P)) K st:=XX ha hc hD hU hC hY hx dE hst h
theorem arC {ws:List AV}{t:Nat}(hC:iK P f ws (gU st D) (fun x S'=>x=x0/\∀p∈Ys,S' p.1=p.2))(h:bB U (r.map (BO.ao P)) K st')(hg:lS (st.arg (.t t)) want=some true:=by first|exact mG|fail)(ha:mY st ys=some ws:=by first|exact vA|fail)(hc:ws.all (iL D)=true:=by first|exact mG|fail)(hD:∀s∈D,(aJ st.S s).isSome=true/\fK D (st.slot s)=true:=by first|exact mG|fail)(hU:∀s∈D,qZ U s=true:=by first|exact mG|fail)(hY:Ys.map (·.1)=D:=by exact rfl)(hx:iL D x0=true:=by first|exact mG|fail)(dE:∀p∈Ys,fK D p.2=true:=by first|exact mG|fail)(hst:(mE Ys st).eR d x0=st':=by first|exact vA|fail):
  bB U ((⟨d,some (t,want),.nM f ys D⟩::r:List BO).map (BO.ao P)) K st:=afx hg ha hc hD hU hC hY hx dE hst h
theorem afC (h:bB U (r.map (BO.ao P)) K st')(hx:nf U (pJ D st) ⟨d,none,.store n p q⟩=some st':=by first|exact vA|fail):
  bB U ((⟨d,none,.qY D n p q⟩::r:List BO).map (BO.ao P)) K st:=afh hx h
theorem afD {ys:List (List AC)}(h:bB U (r.map (BO.ao P)) K st')(hx:st.arg u=some (.w (.c (.own s g))):=by exact rfl)(hs:aJ st.S s=some (.row e k g es):=by exact rfl)(hy:st.rows [s] (st.arg v)=some ys:=by exact rfl)(hk:∀row∈ys,row.length=k:=by first|exact mG|fail)(hl:es.length+ys.length<=100000000:=by first|exact ary|fail)(hU:qZ U s=true:=by exact rfl)(hst:(st.cr s (.row e k (g+1) (es++ys))).eR d (.w (.c (.own s (g+1))))=st':=by first|exact vA|fail):
  bB U ((⟨d,none,.app e k u v⟩::r:List BO).map (BO.ao P)) K st:=Ey hx hs hy hk hl hU hst h
theorem afE (hr:bB U (r.map (BO.ao P)) K st')(hp:Su b=true:=by exact rfl)(h:nf U st b=some st':=by first|exact Yb|fail):
  bB U ((b::r).map (BO.ao P)) K st:=bl h hr
theorem afF {U:List Nat}(h:aW U (l.map (BO.ao P)) tl K t bu st')(hi:l[i]? =some b:=by exact rfl)(hx:EA U st b bu=some st':=by first|exact vA|fail):
  aW U (l.map (BO.ao P)) tl K (.take i t) bu st:=rf hi hx h
theorem arD {U:List Nat}{x:AV}(hC:bj P f ws (fun y=>y=x))(h:aW U (l.map (BO.ao P)) tl K t true (st.eR d x))(hi:l[i]? =some ⟨d,none,.call f ys⟩:=by exact rfl)(ha:oU st ys=some ws:=by first|exact vA|fail):
  aW U (l.map (BO.ao P)) tl K (.move i t) bu st:=Ie hi ha hC h
theorem arE {U:List Nat}{ws:List AV}(hi:l[i]? =some ⟨d,none,.nM f ys D⟩)(hC:iK P f ws (gU st D) (fun x S'=>x=x0/\∀p∈Ys,S' p.1=p.2))(h:aW U (l.map (BO.ao P)) tl K t true st')(ha:mY st ys=some ws:=by first|exact vA|fail)(hc:ws.all (iL D)=true:=by first|exact mG|fail)(hD:∀s∈D,(aJ st.S s).isSome=true/\fK D (st.slot s)=true:=by first|exact mG|fail)(hU:∀s∈D,s∈U:=by first|exact mG|fail)(hY:Ys.map (·.1)=D:=by exact rfl)(hx:iL D x0=true:=by first|exact mG|fail)(dE:∀p∈Ys,fK D p.2=true:=by first|exact mG|fail)(hst:(mE Ys st).eR d x0=st':=by first|exact vA|fail):
  aW U (l.map (BO.ao P)) tl K (.move i t) bu st:=afw hi ha hc hD hU hC hY hx dE hst h
theorem afG {U:List Nat}(h:aW U (l.map (BO.ao P)) tl K t true st')(hi:l[i]? =some ⟨d,none,.qY D n p q⟩:=by exact rfl)(hx:nf (some U) (pJ D st) ⟨d,none,.store n p q⟩=some st':=by first|exact vA|fail):
  aW U (l.map (BO.ao P)) tl K (.move i t) bu st:=afj hi hx h
theorem afH {U:List Nat}(h:aW U (l.map (BO.ao P)) tl K t true st')(hi:l[i]? =some b:=by exact rfl)(hp:Su b=true:=by exact rfl)(hx:nf (some U) st b=some st':=by first|exact Yb|fail):
  aW U (l.map (BO.ao P)) tl K (.move i t) bu st:=KU hi hx h
theorem afI {U:List Nat}(h:aW U (l.map (BO.ao P)) tl K t true st')(hi:l[i]? =some b:=by exact rfl)(hp:isApp b=true:=by exact rfl)(hx:nf (some U) st b=some st':=by first|exact Yb|fail):
  aW U (l.map (BO.ao P)) tl K (.move i t) bu st:=KU hi hx h
theorem afJ {U:List Nat}{l:List AO}(h:bB none (r.map (BO.ao P)) K st)(hr:l2.drop n=r:=by simp only[qy,uN];(try rfl);(first|done|fail)):
  aW U l ((l2.drop n).map (BO.ao P)) K .nil bu st:=afu hr h
theorem afK {t:aQ}(h:aP (lift P (.seq x z)) Q st)(hb:st.sc t=some (.bool true):=by first|exact mG|fail):
  aP (lift P (.seq (.cond t x y) z)) Q st:=afq hb h
theorem afL {t:aQ}(h:aP (lift P (.seq y z)) Q st)(hb:st.sc t=some (.bool false):=by first|exact mG|fail):
  aP (lift P (.seq (.cond t x y) z)) Q st:=afr hb h
theorem afM {t:aQ}(h:aP (lift P x) Q st)(hb:st.sc t=some (.bool true):=by first|exact mG|fail):
  aP (lift P (.cond t x y)) Q st:=afs hb h
theorem afN {t:aQ}(h:aP (lift P y) Q st)(hb:st.sc t=some (.bool false):=by first|exact mG|fail):
  aP (lift P (.cond t x y)) Q st:=aft hb h
theorem afO (h:aP (lift P (.seq x z)) Q st')(hs:st.freeze s=st':=by first|exact afA|fail):
  aP (lift P (.seq (.mC s x) z)) Q st:=XR hs h
theorem afP (h:aP (lift P x) Q st')(hs:st.freeze s=st':=by first|exact afA|fail):
  aP (lift P (.mC s x)) Q st:=XT hs h
theorem afQ {b:Nat}(h:aP (lift P (.seq x z)) Q st')(hs:st.mB b off s e k=st':=by first|exact afB|fail):
  aP (lift P (.seq (.pL b off s e k x) z)) Q st:=afi hs h
theorem afR {b:Nat}(h:aP (lift P x) Q st')(hs:st.mB b off s e k=st':=by first|exact afB|fail):
  aP (lift P (.pL b off s e k x)) Q st:=XS hs h
end
theorem arF {U:Option (List Nat)}{st:St}{op:ft}{m:Bool}{ev:St->List Nat->Option AV}{x:AV}(he:cC op=some (m,ev))(h:ev st []=some x):dD U st op=some (x,st):=by
 cases op with
 |qO k y lo hi=>
  cases lo with
  |none=>
   simp only[dD];split
   ·rename_i s g hy;simp only[cC,aA,jM] at he;obtain⟨_,rfl⟩:=he;dsimp only at h;rw[hy] at h;cases h
   ·rw[he];simp only[h,yh]
  |some lo=>simp only[dD];rw[he];simp only[h,yh]
 |_=>first|(simp only[cC] at he;cases he;done)|(simp only[dD];rw[he];simp only[h,yh])
def ri (V L:List (Nat×AV))(S:List (Nat×Slot))(U:List Nat)(op:ft)(x:AV):Prop:=∃m ev,cC op=some (m,ev)/\ev ⟨V,L,S⟩ U=some x
def Yc (op:ft):Bool:=match cC op with
 |some (m,_)=>m
 |none=>false
section
variable {V L:List (Nat×AV)} {S:List (Nat×Slot)} {U:List Nat}
variable {c:AC} {cs r ys:List AC} {e g i k m:Nat} {es:List (List AC)} {kk:IntKind} {p x y:aQ} {q u:Value}
theorem Ol(h:St.arg ⟨V,L,S⟩ y=some (.w (.c (.v u)))):St.sc ⟨V,L,S⟩ y=some u:=by unfold St.sc;rw[h];rfl
theorem Sv{s:Nat}{x:Slot}(h:aJ S s=some x):St.slot ⟨V,L,S⟩ s=x:=by unfold St.slot;rw[h];rfl
theorem KV{off:Nat}(h:(cs.drop off).take 1=c::r):off+1<=cs.length/\(cs.drop off).take 1=[c]:=by
 have h2:=aF List.length h;simp only[dN,ml,List.length_cons] at h2;refine⟨ab,?_⟩;have:r=[]:=BK.1 ab;rw[h,this]
theorem afS{s off n:Nat}(hs:aJ S s=some (.box g cs))(hU:U.contains s=false)(hl:off+n<=cs.length)(h:(cs.drop off).take n=ys):St.cells ⟨V,L,S⟩ U n (some (.pb s g off))=some ys:=by
 have hm:s∉U:=fun hm=>by rw[List.contains_iff_mem.2 hm] at hU;cases hU
 simp only[St.cells,Sv hs];rw[aj ⟨trivial,hm,hl⟩,h]
theorem afT{s off n:Nat}{row:List AC}(hs:aJ S s=some (.row e k g es))(hU:U.contains s=false)(hr:es[i]? =some row)(hl:off+n<=row.length)(h:(row.drop off).take n=ys):St.cells ⟨V,L,S⟩ U n (some (.pr s g i off))=some ys:=by
 have hm:s∉U:=fun hm=>by rw[List.contains_iff_mem.2 hm] at hU;cases hU
 simp only[St.cells,Sv hs];rw[aj ⟨trivial,hm⟩,hr];dsimp only;rw[aj hl,h]
theorem afU{off n:Nat}(hl:off+n<=cs.length)(h:(cs.drop off).take n=ys):St.cells ⟨V,L,S⟩ U n (some (.pi cs off))=some ys:=by
 simp only[St.cells];rw[aj hl,h]
theorem eMv{x:AV}(h:St.arg ⟨V,L,S⟩ y=some x:=by exact rfl):ri V L S U (.mv y) x:=⟨_,_,rfl,h⟩
theorem afV{o:BinOp}{z:aQ}{v:Value}(h1:St.arg ⟨V,L,S⟩ y=some (.w (.c (.v u))):=by exact rfl)(h2:St.arg ⟨V,L,S⟩ z=some (.w (.c (.v v))):=by exact rfl)(h:aZ o u v=some q:=by(simp[FF]);(try rfl);(first|done|fail)):ri V L S U (.bin o y z) (.w (.c (.v q))):=
 ⟨_,_,rfl,by(try dsimp only);rw[Ol h1,Ol h2];(try dsimp only);rw[h];rfl⟩
theorem eUn{o:UnOp}(h1:St.arg ⟨V,L,S⟩ y=some (.w (.c (.v u))):=by exact rfl)(h:Ej o u=some q:=by(simp[FF]);(try rfl);(first|done|fail)):ri V L S U (.un o y) (.w (.c (.v q))):=
 ⟨_,_,rfl,by(try dsimp only);rw[Ol h1];(try dsimp only);rw[h];rfl⟩
theorem afW{n:Int}(h1:St.arg ⟨V,L,S⟩ y=some (.w (.c (.sl es))):=by exact rfl)(h:(es.length:Int)=n:=by first|((simp[FF]);(try rfl);(first|done|fail))|exact rfl):ri V L S U (.len y) (.w (.c (.v (.int .i64 n)))):=
 ⟨_,_,rfl,by(try dsimp only);rw[h1];subst h;rfl⟩
theorem afX{s:Nat}{n:Int}(h1:St.arg ⟨V,L,S⟩ y=some (.w (.c (.own s g))):=by exact rfl)(hs:aJ S s=some (.row e k g es):=by exact rfl)(h:(es.length:Int)=n:=by first|((simp[FF]);(try rfl);(first|done|fail))|exact rfl):ri V L S U (.len y) (.w (.c (.v (.int .i64 n)))):=
 ⟨_,_,rfl,by(try dsimp only);rw[h1];simp only[St.rows,Sv hs];rw[aj ⟨trivial,jL⟩];subst h;rfl⟩
theorem afY{s off:Nat}(h1:St.arg ⟨V,L,S⟩ p=some (.pb s g off):=by exact rfl)(hs:aJ S s=some (.box g cs):=by exact rfl)(hU:U.contains s=false:=by exact rfl)(h:(cs.drop off).take 1=ys:=by first|((simp[FF]);(try rfl);(first|done|fail))|exact rfl)(h2:ys=c::r:=by exact rfl):ri V L S U (.ld1 p) (.w (.c c)):=
 ⟨_,_,rfl,by(try dsimp only);rw[h1,afS hs hU (KV (h.trans h2)).1 (KV (h.trans h2)).2]⟩
theorem afZ{s off:Nat}{row:List AC}(h1:St.arg ⟨V,L,S⟩ p=some (.pr s g i off):=by exact rfl)(hs:aJ S s=some (.row e k g es):=by exact rfl)(hU:U.contains s=false:=by exact rfl)(hr:es[i]? =some row:=by first|((simp[FF]);(try rfl);(first|done|fail))|exact rfl)(h:(row.drop off).take 1=ys:=by first|((simp[FF]);(try rfl);(first|done|fail))|exact rfl)(h2:ys=c::r:=by exact rfl):ri V L S U (.ld1 p) (.w (.c c)):=
 ⟨_,_,rfl,by(try dsimp only);rw[h1,afT hs hU hr (KV (h.trans h2)).1 (KV (h.trans h2)).2]⟩
theorem aga{off:Nat}(h1:St.arg ⟨V,L,S⟩ p=some (.pi cs off):=by exact rfl)(h:(cs.drop off).take 1=ys:=by first|((simp[FF]);(try rfl);(first|done|fail))|exact rfl)(h2:ys=c::r:=by exact rfl):ri V L S U (.ld1 p) (.w (.c c)):=
 ⟨_,_,rfl,by(try dsimp only);rw[h1,afU (KV (h.trans h2)).1 (KV (h.trans h2)).2]⟩
theorem agb{s off:Nat}(h1:St.arg ⟨V,L,S⟩ p=some (.pb s g off):=by exact rfl)(hs:aJ S s=some (.box g cs):=by exact rfl)(hl:off+0<=cs.length:=by first|((simp[FF]);done)|omega)(h:off+k=m:=by first|((simp[FF]);(try rfl);(first|done|fail))|exact rfl):ri V L S U (.uX p k) (.pb s g m):=
 ⟨_,_,rfl,by(try dsimp only);rw[h1,afS hs rfl hl rfl];subst h;rfl⟩
theorem agc{s off q:Nat}{row:List AC}(h1:St.arg ⟨V,L,S⟩ p=some (.pr s g i off):=by exact rfl)(hs:aJ S s=some (.row e q g es):=by exact rfl)(hr:es[i]? =some row:=by first|((simp[FF]);(try rfl);(first|done|fail))|exact rfl)(hl:off+0<=row.length:=by first|((simp[FF]);done)|omega)(h:off+k=m:=by first|((simp[FF]);(try rfl);(first|done|fail))|exact rfl):ri V L S U (.uX p k) (.pr s g i m):=
 ⟨_,_,rfl,by(try dsimp only);rw[h1,afT hs rfl hr hl rfl];subst h;rfl⟩
theorem agd{off:Nat}(h1:St.arg ⟨V,L,S⟩ p=some (.pi cs off):=by exact rfl)(hl:off+0<=cs.length:=by first|((simp[FF]);done)|omega)(h:off+k=m:=by first|((simp[FF]);(try rfl);(first|done|fail))|exact rfl):ri V L S U (.uX p k) (.pi cs m):=
 ⟨_,_,rfl,by(try dsimp only);rw[h1,afU hl rfl];subst h;rfl⟩
theorem age{i:aQ}{n:Int}{row:List AC}(h1:St.arg ⟨V,L,S⟩ x=some (.w (.c (.sl es))):=by exact rfl)(h2:St.arg ⟨V,L,S⟩ i=some (.w (.c (.v (.int kk n)))):=by exact rfl)(hb:0<=n/\n<es.length:=by(simp[FF]);(first|done|omega))(hr:es.getD n.toNat []=row:=by first|((simp[FF]);(try rfl);(first|done|fail))|exact rfl)(hl:row.length=k:=by(simp[FF];done)):ri V L S U (.idx k x i) (.pi row 0):=
 ⟨_,_,rfl,by(try dsimp only);rw[h1,Ol h2];subst hr;simp only[St.rows,Ek];rw[aj ⟨hb.1,hb.2,hl⟩]⟩
theorem agf{i:aQ}{s q:Nat}{n:Int}(h1:St.arg ⟨V,L,S⟩ x=some (.w (.c (.own s g))):=by exact rfl)(h2:St.arg ⟨V,L,S⟩ i=some (.w (.c (.v (.int kk n)))):=by exact rfl)(hs:aJ S s=some (.row e q g es):=by exact rfl)(hb:0<=n/\n<es.length:=by(simp[FF]);(first|done|omega))(hl:(es.getD n.toNat []).length=k:=by(simp[FF];done))(hm:n.toNat=m:=by first|((simp[FF]);(try rfl);(first|done|fail))|exact rfl):ri V L S U (.idx k x i) (.pr s g m 0):=
 ⟨_,_,rfl,by(try dsimp only);rw[h1,Ol h2];simp only[St.rows,Sv hs];rw[aj ⟨trivial,jL⟩];subst hm;simp only[Ek];rw[aj ⟨hb.1,hb.2,hl⟩]⟩
theorem agh{vs:List AW}{w:AW}(h1:St.arg ⟨V,L,S⟩ x=some (.bP vs):=by exact rfl)(h:vs[i]? =some w:=by exact rfl):ri V L S U (.ext x i) (.w w):=
 ⟨_,_,rfl,by(try dsimp only);rw[h1];(try dsimp only);rw[h];rfl⟩
end
section
variable {P:Program} {d:Nat} {r:List BO} {V L:List (Nat×AV)} {S:List (Nat×Slot)} {K:St->Prop}
theorem xh {U:Option (List Nat)}{op:ft}{x:AV}(hr:bB U (r.map (BO.ao P)) K ⟨V,(d,x)::L,S⟩)(hd:(aJ V d).isSome=false:=by exact rfl)(h:ri V L S [] op x:=by first|exact eMv|exact afV|exact afY|exact agb|exact age|exact afW|exact aga|exact agd|exact agf|exact afZ|exact agc|exact afX|exact eUn|exact agh):
  bB U ((⟨some d,none,op⟩::r:List BO).map (BO.ao P)) K ⟨V,L,S⟩:=by
 obtain⟨m,ev,he,h⟩:=h;refine bl (st':=⟨V,(d,x)::L,S⟩) ?_ hr;simp only[nf,arF he h,yh,St.eR,St.put,hd];rfl
theorem xi {U:List Nat}{l:List BO}{tl:List AO}{i:Nat}{t:OT}{bu:Bool}{op:ft}{x:AV}(hr:aW U (l.map (BO.ao P)) tl K t bu ⟨V,(d,x)::L,S⟩)(hi:l[i]? =some ⟨some d,none,op⟩:=by exact rfl)(hm:(Yc op && bu)=false:=by exact rfl)(hd:(aJ V d).isSome=false:=by exact rfl)(h:ri V L S U op x:=by first|exact eMv|exact afV|exact afY|exact agb|exact age|exact afW|exact aga|exact agd|exact agf|exact afZ|exact agc|exact afX|exact eUn|exact agh):
  aW U (l.map (BO.ao P)) tl K (.take i t) bu ⟨V,L,S⟩:=by
 obtain⟨m,ev,he,h⟩:=h;refine rf hi (st':=⟨V,(d,x)::L,S⟩) ?_ hr
 have AD:¬(m=true/\bu=true):=fun q=>by
  have:Yc op=m:=by unfold Yc;rw[he]
  rw[this,q.1,q.2] at hm;cases hm
 simp only[EA,he,af AD,h,yh,St.eR,St.put,hd];rfl
end
variable {A B:Prop}
structure Bx (p:Prop):Prop where
 out:p
theorem aG(h:B)(g:Bx B->A:=by intro hB;(first|refine xh ?_|refine xi ?_|refine Aw ?_|refine Av ?_|refine bG ?_|refine Ax ?_|refine Az ?_|refine AA ?_|refine AB ?_|refine iB ?_|refine k_reg ?_|refine Ap ?_|refine tP ?_|refine xg ?_|refine Sp ?_|refine Aq ?_|refine oW ?_|refine Cs ?_|refine Sn ?_|refine Sr ?_|refine yE ?_|refine KT ?_|refine zc1 ?_|refine zc2 ?_|refine zc3 ?_|refine zc4 ?_|refine zc7 ?_|refine zc8 ?_|refine zc5 ?_|refine zc6 ?_|refine Au ?_|refine Ay ?_);(repeat (first|refine xh ?_|refine xi ?_|refine Aw ?_|refine Av ?_|refine bG ?_|refine Ax ?_|refine Az ?_|refine AA ?_|refine AB ?_|refine iB ?_|refine k_reg ?_|refine Ap ?_|refine tP ?_|refine xg ?_|refine Sp ?_|refine Aq ?_|refine oW ?_|refine Cs ?_|refine Sn ?_|refine Sr ?_|refine yE ?_|refine KT ?_|refine zc1 ?_|refine zc2 ?_|refine zc3 ?_|refine zc4 ?_|refine zc7 ?_|refine zc8 ?_|refine zc5 ?_|refine zc6 ?_|refine Au ?_|refine Ay ?_));exact hB.out):A:=g ⟨h⟩
theorem Cv(h:B)(g:Bx B->A:=by intro hB;(first|refine xh ?_|refine xi ?_|refine afE ?_|refine afD ?_|refine bG ?_|refine afF ?_|refine afH ?_|refine afI ?_|refine afJ ?_|refine iB ?_|refine k_reg ?_|refine Ap ?_|refine tP ?_|refine xg ?_|refine Sp ?_|refine Aq ?_|refine oW ?_|refine Cs ?_|refine Sn ?_|refine Sr ?_|refine yE ?_|refine KT ?_|refine afK ?_|refine afL ?_|refine afM ?_|refine afN ?_|refine afQ ?_|refine afR ?_|refine afO ?_|refine afP ?_|refine afC ?_|refine afG ?_);(repeat (first|refine xh ?_|refine xi ?_|refine afE ?_|refine afD ?_|refine bG ?_|refine afF ?_|refine afH ?_|refine afI ?_|refine afJ ?_|refine iB ?_|refine k_reg ?_|refine Ap ?_|refine tP ?_|refine xg ?_|refine Sp ?_|refine Aq ?_|refine oW ?_|refine Cs ?_|refine Sn ?_|refine Sr ?_|refine yE ?_|refine KT ?_|refine afK ?_|refine afL ?_|refine afM ?_|refine afN ?_|refine afQ ?_|refine afR ?_|refine afO ?_|refine afP ?_|refine afC ?_|refine afG ?_));exact hB.out):A:=g ⟨h⟩
theorem bY{C1:Prop}(c1:C1)(h:B)(g:Bx B->C1->A:=by intro hB dF;(repeat (first|refine yH dF ?_|refine yI dF ?_|refine vB dF ?_|refine vC dF ?_|refine yJ dF ?_|refine vD rfl dF ?_|refine aG ?_));exact hB.out):A:=g ⟨h⟩ c1
theorem kg{C1 C2:Prop}(c1:C1)(c2:C2)(h:B)(g:Bx B->C1->C2->A:=by intro hB dF rj;(repeat (first|refine yH dF ?_|refine yH rj ?_|refine yI dF ?_|refine yI rj ?_|refine vB dF ?_|refine vB rj ?_|refine vC dF ?_|refine vC rj ?_|refine yJ dF ?_|refine yJ rj ?_|refine vD rfl dF ?_|refine vD rfl rj ?_|refine aG ?_));exact hB.out):A:=g ⟨h⟩ c1 c2
theorem yK{C1 C2 C3:Prop}(c1:C1)(c2:C2)(c3:C3)(h:B)(g:Bx B->C1->C2->C3->A:=by intro hB dF rj KW;(repeat (first|refine yH dF ?_|refine yH rj ?_|refine yH KW ?_|refine yI dF ?_|refine yI rj ?_|refine yI KW ?_|refine vB dF ?_|refine vB rj ?_|refine vB KW ?_|refine vC dF ?_|refine vC rj ?_|refine vC KW ?_|refine yJ dF ?_|refine yJ rj ?_|refine yJ KW ?_|refine vD rfl dF ?_|refine vD rfl rj ?_|refine vD rfl KW ?_|refine aG ?_));exact hB.out):A:=g ⟨h⟩ c1 c2 c3
theorem Yd{C1:Prop}(c1:C1)(h:B)(g:Bx B->C1->A:=by intro hB dF;(repeat (first|refine arz dF ?_|refine arA dF ?_|refine arB dF ?_|refine arC dF ?_|refine arD dF ?_|refine arE rfl dF ?_|refine Cv ?_));exact hB.out):A:=g ⟨h⟩ c1
theorem zE(h:B)(g:Bx B->A:=by intro hB;(try dsimp only[lT,mD]);refine kJ (by simp;try rfl) ?_;exact hB.out):A:=g ⟨h⟩
theorem kL(h:B)(g:Bx B->A:=by intro hB;(try dsimp only[lT,mD]);refine aru (by first|(simp;done)|(simp[hl,hw,fz];try rfl)|(simp;try rfl)) ai ?_;exact hB.out):A:=g ⟨h⟩
end Ab
end Go.Proofs.YtkanpepkdcmpmaaGreatDoor
