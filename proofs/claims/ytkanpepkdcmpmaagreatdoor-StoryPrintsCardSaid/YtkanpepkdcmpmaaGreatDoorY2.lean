import Derived.Test.YtkanpepkdcmpmaaGreatDoorY1
import Derived.Lib.SliceRun
set_option maxHeartbeats 40000000
set_option maxRecDepth 100000
set_option linter.all false
namespace Go.Proofs.YtkanpepkdcmpmaaGreatDoor
namespace Ab
open Go Go.RowKit
def sB (P:Program)(t:TypeId)(n:Nat):Prop:=∀(x y:Operand) (xs ys:List Int) (w:World),xs.length=n->ys.length=n->
 ((do eqGuard .eql t x y (.agg (iv xs).toArray) (.agg (iv ys).toArray);binOp .eql t (.agg (iv xs).toArray) (.agg (iv ys).toArray)):Sem Value).run P w=.ok (.bool (decide (xs=ys))) w/\
 ((do eqGuard .neq t x y (.agg (iv xs).toArray) (.agg (iv ys).toArray);binOp .neq t (.agg (iv xs).toArray) (.agg (iv ys).toArray)):Sem Value).run P w=.ok (.bool (decide (xs≠ys))) w
def RL:AC->Option Int
 | .v (.int .i64 n)=>some n
 |_=>none
def GK:List AC->Option (List Int)
 |[]=>some []
 |x::l=>match RL x,GK l with
  |some n,some r=>some (n::r)
  |_,_=>none
section
variable {P:Program} {w:World}
theorem aqq {A:Nat->Prop}{S:Nat->Slot}{G:Nat->Gh}{H:Nat->Value}{x:AC}{n:Int}{u:Value}(h:RL x=some n)(hc:CR w A S G H x u):u=I n:=by
 unfold RL at h;split at h
 ·simp only[aA] at h;subst h;have h2:IR w A (.v (.int .i64 _)) u:=hc;cases h2;rfl
 ·cases h
theorem Xl {A:Nat->Prop}{S:Nat->Slot}{G:Nat->Gh}{H:Nat->Value}:∀{cs:List AC} {l:List Int} {us:List Value},GK cs=some l->cE w A S G H cs us->us=iv l
 |[],l,us,h,hc=>by
  simp only[GK,aA] at h;subst h;exact yh hc.1
 |x::cs,l,us,h,hc=>by
  unfold GK at h;split at h
  case h_2=>cases h
  rename_i n r h1 h2;simp only[aA] at h;subst h
  cases us with
  |nil=>have:=hc.1;simp at this
  |cons u us=>
   have hc':cE w A S G H cs us:=⟨by have:=hc.1;simpa using this,fun j x u e1 e2=>hc.2 (j+1) x u (by simpa using e1) (by simpa using e2)⟩
   rw[Xl h2 hc',aqq h1 (hc.2 0 x u rfl rfl)];rfl
def RM (neg:Bool)(n:Nat):Option AV->Option AV->Option AV
 |some (.w (.agg cs)),some (.w (.agg ds))=>match GK cs,GK ds with
  |some xs,some ys=>if xs.length=n/\ys.length=n then some (.w (.c (.v (.bool (if neg then decide (xs≠ys) else decide (xs=ys)))))) else none
  |_,_=>none
 |_,_=>none
theorem aeF {o:Oper}{neg:Bool}{t t':TypeId}{n:Nat}{x x':Operand}{y y':aP}(ho:o.op=.binOp (if neg then .neq else .eql) t x x' t')(hE:sB P t n)(hx:dO x y)(su:dO x' y'):jM P false o (fun st _=>RM neg n (st.arg y) (st.arg y')):=by
 intro N F M w0 w st G H a U r h hr;dsimp only at hr;unfold RM at hr;split at hr
 case h_2=>cases hr
 rename_i cs ds h1 h2;split at hr
 case h_2=>cases hr
 rename_i xs ys h3 h4;split at hr
 case isFalse=>cases hr
 rename_i hl;simp only[aA] at hr;subst hr;obtain⟨us,e1,c1⟩:=h.arg hx h1;obtain⟨vs,e2,c2⟩:=h.arg su h2;have i1:=Xl h3 c1;have i2:=Xl h4 c2;subst i1;subst i2;refine⟨_,IR.v _ rfl,fun w' _=> ?_⟩;have hq:=hE x x' xs ys w' hl.1 hl.2;unfold execOp;cases neg
 ·have h5:=hq.1;simp only[zJ,pd] at ho⊢;simp only[ho,e1,e2];rw[oZ,h5];rfl
 ·have h5:=hq.2;simp only[nk] at ho⊢;simp only[ho,e1,e2];rw[oZ,h5];rfl
end
theorem aqr:sB Tryz.prog 37 3:=by
 intro x y xs ys w hx hy
 match xs,ys,hx,hy with
 |[a0,a1,a2],[b0,b1,b2],_,_=>
  constructor
  ·simp only[iv,List.map];go_simp;simp[cS]
  ·simp only[iv,List.map];go_simp;simp[cS]
theorem aqs:sB Tryz.prog 39 5:=by
 intro x y xs ys w hx hy
 match xs,ys,hx,hy with
 |[a0,a1,a2,a3,a4],[b0,b1,b2,b3,b4],_,_=>
  constructor
  ·simp only[iv,List.map];go_simp;simp[cS]
  ·simp only[iv,List.map];go_simp;simp[cS]
theorem aqt:sB Tryz.prog 41 8:=by
 intro x y xs ys w hx hy
 match xs,ys,hx,hy with
 |[a0,a1,a2,a3,a4,a5,a6,a7],[b0,b1,b2,b3,b4,b5,b6,b7],_,_=>
  constructor
  ·simp only[iv,List.map];go_simp;simp[cS]
  ·simp only[iv,List.map];go_simp;simp[cS]
theorem aqu:sB Tryz.prog 76 5:=by
 intro x y xs ys w hx hy
 match xs,ys,hx,hy with
 |[a0,a1,a2,a3,a4],[b0,b1,b2,b3,b4],_,_=>
  constructor
  ·simp only[iv,List.map];go_simp;simp[cS]
  ·simp only[iv,List.map];go_simp;simp[cS]
theorem aqv:sB Tryz.prog 278 2:=by
 intro x y xs ys w hx hy
 match xs,ys,hx,hy with
 |[a0,a1],[b0,b1],_,_=>
  constructor
  ·simp only[iv,List.map];go_simp;by_cases h0:a0=b0<;>by_cases h1:a1=b1<;>simp[h0,h1]
  ·simp only[iv,List.map];go_simp;by_cases h0:a0=b0<;>by_cases h1:a1=b1<;>simp[h0,h1]
def cU:List (Nat×Nat):=[(37,3),(39,5),(41,8),(76,5),(278,2)]
theorem Xm:∀p∈cU,sB Tryz.prog p.1 p.2:=by
 intro p hp;simp only[cU,cz,jD,kL] at hp
 rcases hp with rfl|rfl|rfl|rfl|rfl
 ·exact aqr
 ·exact aqs
 ·exact aqt
 ·exact aqu
 ·exact aqv
section
variable {P:Program}
variable {o:Oper} {t:TypeId} {x:Operand} {y:aP}
theorem aqw(ho:o.op=.call { callee:=.builtin .len,args:=#[x],argTypes:=#[t] })(ht:P.underlying t=some .string)(hx:dO x y):
  jM P false o (fun st _=>match st.sc y with |some (.string s)=>some (.w (.c (.v (.int .i64 s.size))))|_=>none):=by
 intro N F M w0 w st G H a U r h hr;dsimp only at hr;split at hr
 case h_2=>cases hr
 rename_i s hs;simp only[aA] at hr;subst hr;obtain⟨e1,_⟩:=h.sc hx hs;refine⟨_,IR.v _ rfl,fun w' _=> ?_⟩;unfold execOp;simp[ho,resolve,e1,invoke,Go.builtin,Builtin.len_,lu ht,goInt]
theorem aqx(w:World)(n l h:Nat)(lo hi:Option Value)(oJ:(lo=none/\l=0)\/∃k,lo=some (.int k l))(jn:(hi=none/\h=n)\/∃k,hi=some (.int k h))(h1:l<=h)(h2:h<=n):
  (Instr.sliceBounds false n n lo hi none).run P w=.ok (l,h,n) w:=by
 have e1:∀(k:IntKind) (code:BoundsCode),(Instr.sliceBound (.int k h) n code).run P w=.ok h w:=fun k code=>by rw[run_sliceBound w k h n code ab ab];simp
 have e2:∀(k:IntKind) (code:BoundsCode),(Instr.sliceBound (.int k l) h code).run P w=.ok l w:=fun k code=>by rw[run_sliceBound w k l h code ab ab];simp
 rcases oJ with⟨rfl,rfl⟩|⟨k,rfl⟩<;>rcases jn with⟨rfl,rfl⟩|⟨k',rfl⟩<;>simp[Instr.sliceBounds,e1,e2]
theorem aqy{lo hi:Option Operand}{qG hi':Option aP}(ho:o.op=.slice t x lo hi none)(hu:P.underlying t=some .string)(hx:dO x y)(oJ:Kw lo qG)(jn:Kw hi hi'):
  jM P false o (fun st _=>match st.sc y with
   |some (.string s)=>match Ed st qG,wZ st s.size hi' with
    |some l,some h=>if l<=h/\h<=s.size then some (.w (.c (.v (.string (s.extract l h))))) else none
    |_,_=>none
   |_=>none):=by
 intro N F M w0 w st G H a U r h hr;dsimp only at hr;split at hr
 case h_2=>cases hr
 rename_i s hs;split at hr
 case h_2=>cases hr
 rename_i l hh cF yz;split at hr
 case isFalse=>cases hr
 rename_i hb;obtain⟨h1,h2⟩:=hb;simp only[aA] at hr;subst hr;obtain⟨e1,_⟩:=h.sc hx hs;refine⟨_,IR.v _ rfl,fun w' _=> ?_⟩
 have WQ:((lo.map a.eval)=none/\l=0)\/∃k,lo.map a.eval=some (.int k l):=by
  cases lo with
  |none=>cases qG with
   |none=>simp[Ed] at cF;exact .inl ⟨rfl,cF.symm⟩
   |some=>exact oJ.elim
  |some p=>cases qG with
   |none=>exact oJ.elim
   |some q=>
    obtain⟨k,e⟩:=h.bound oJ cF;exact .inr ⟨k,by simp[e]⟩
 have Ky:((hi.map a.eval)=none/\hh=s.size)\/∃k,hi.map a.eval=some (.int k hh):=by
  cases hi with
  |none=>cases hi' with
   |none=>simp[wZ] at yz;exact .inl ⟨rfl,yz.symm⟩
   |some=>exact jn.elim
  |some p=>cases hi' with
   |none=>exact jn.elim
   |some q=>
    obtain⟨k,e⟩:=h.bound jn yz;exact .inr ⟨k,by simp[e]⟩
 unfold execOp;simp[ho,e1,Instr.sliceAt,Instr.slice,lu hu,aqx w' s.size l hh _ _ WQ Ky h1 h2]
theorem aqz{t':TypeId}{k':IntKind}(ho:o.op=.convert t t' x)(hs:(P.underlying t).isSome=true)(hd:P.underlying t'=some (.int k'))(hx:dO x y):
  jM P false o (fun st _=>match st.sc y with |some (.int _ n)=>if k'.wrap n=n then some (.w (.c (.v (.int k' n)))) else none|_=>none):=by
 intro N F M w0 w st G H a U r h hr;dsimp only at hr;split at hr
 case h_2=>cases hr
 rename_i k n hn;split at hr
 case isFalse=>cases hr
 rename_i hw;simp only[aA] at hr;subst hr;obtain⟨e1,_⟩:=h.sc hx hn;refine⟨_,IR.v _ rfl,fun w' _=> ?_⟩;obtain⟨d,Ah⟩:=QW.mp hs;unfold execOp;simp[ho,e1,convert,lu hd,lu Ah,Conv.intToInt,hw]
theorem aqA{x1 x2 x3:Operand}{y1 y2 y3:aP}{ts:Array TypeId}(ho:o.op=.call { callee:=.builtin .max,args:=#[x1,x2,x3],argTypes:=ts })(h1:dO x1 y1)(h2:dO x2 y2)(h3:dO x3 y3):
  jM P false o (fun st _=>match st.sc y1,st.sc y2,st.sc y3 with |some (.int .i64 a),some (.int .i64 b),some (.int .i64 c)=>some (.w (.c (.v (.int .i64 (max (max a b) c)))))|_,_,_=>none):=by
 intro N F M w0 w st G H a U r h hr;dsimp only at hr;split at hr
 case h_2=>cases hr
 rename_i x y z hu hv hw;obtain⟨e1,s1⟩:=h.sc h1 hu;obtain⟨e2,s2⟩:=h.sc h2 hv;obtain⟨e3,s3⟩:=h.sc h3 hw;simp only[aA] at hr;subst hr;refine⟨_,IR.v _ rfl,fun w' _=> ?_⟩;unfold execOp;have q1:max x y=if x<y then y else x:=ab;have q2:max (max x y) z=if(if x<y then y else x)<z then z else if x<y then y else x:=ab;simp[ho,resolve,e1,e2,e3,invoke,Go.builtin,Builtin.max_,Builtin.max2,q2]
theorem aqB(ho:o.op=.nilCheck x)(hx:dO x y):
  jM P false o (fun st _=>match st.cells [] 0 (st.arg y),st.arg y with |some _,some p=>some p|_,_=>none):=by
 intro N F M w0 w st G H a U r h hr;dsimp only at hr;split at hr
 case h_2=>cases hr
 rename_i cs p hc hp;simp only[aA] at hr;subst hr;rw[hp] at hc;obtain⟨b,off,us,e1,hlt,hU,hr,hcs,hl⟩:=h.cells (h.arg hx hp) hc;refine⟨_,h.arg hx hp,fun w' _=> ?_⟩;unfold execOp;simp[ho,e1]
end
section
variable {P:Program}
def RN (Ai neg:Bool):Option AV->Option AV
 |some (.w (.c (.v .nilIface)))=>if Ai then some (.w (.c (.v (.bool (!neg))))) else none
 |some (.w (.c (.v (.iface _ _))))=>if Ai then some (.w (.c (.v (.bool neg)))) else none
 |some (.w (.c (.v (.slice none 0 0))))=>if Ai then none else some (.w (.c (.v (.bool (!neg)))))
 |some (.w (.c (.sl ((_::_)::_))))=>if Ai then none else some (.w (.c (.v (.bool neg))))
 |_=>none
def KH (P:Program)(t:TypeId):Operand->Option Bool
 | .const (.slice none 0 0)=>match P.underlying t with
  |some (.slice _)=>some false
  |_=>none
 | .const .nilIface=>match P.underlying t with
  |some (.interface _)=>some true
  |_=>none
 |_=>none
theorem aeG {o:Oper}{neg Ai:Bool}{t t':TypeId}{x z:Operand}{y:aP}(ho:o.op=.binOp (if neg then .neq else .eql) t x z t')(hz:KH P t z=some Ai)(hx:dO x y):jM P false o (fun st _=>RN Ai neg (st.arg y)):=by
 intro N F M w0 w st G H a U r h hr;dsimp only at hr;unfold RN at hr;split at hr
 ·rename_i hv;split at hr
  case isFalse=>cases hr
  rename_i hi;subst hi;simp only[aA] at hr;subst hr;have hv':=h.arg hx hv;generalize hq:a.eval x=q at hv';have h3:IR w (aV M st.slot G H) (.v .nilIface) q:=hv';cases h3;unfold KH at hz;split at hz
  ·split at hz<;>cases hz
  ·split at hz
   ·rename_i ms ht;refine⟨_,IR.v _ rfl,fun w' _=> ?_⟩;have e2:a.eval (.const .nilIface)=.nilIface:=rfl
    have hE:∀d:Nat,(Op.equalIn (d+1) t .nilIface .nilIface).run P w'=.ok true w':=fun d=>by simp[Op.equalIn,lu ht]
    unfold execOp;cases neg
    ·simp only[ho,hq,e2,eqGuard,binOp];simp[Op.equal,Op.maxDepth,hE 9999]
    ·simp only[ho,hq,e2,eqGuard,binOp];simp[Op.equal,Op.maxDepth,hE 9999]
   ·cases hz
  ·cases hz
 ·rename_i ta va hv;split at hr
  case isFalse=>cases hr
  rename_i hi;subst hi;simp only[aA] at hr;subst hr;have hv':=h.arg hx hv;generalize hq:a.eval x=q at hv';have h3:IR w (aV M st.slot G H) (.v (.iface ta va)) q:=hv';cases h3;unfold KH at hz;split at hz
  ·split at hz<;>cases hz
  ·split at hz
   ·rename_i ms ht;refine⟨_,IR.v _ rfl,fun w' _=> ?_⟩;have e2:a.eval (.const .nilIface)=.nilIface:=rfl
    have hE:∀d:Nat,(Op.equalIn (d+1) t (.iface ta va) .nilIface).run P w'=.ok false w':=fun d=>by simp[Op.equalIn,lu ht]
    unfold execOp;cases neg
    ·simp only[ho,hq,e2,eqGuard,binOp];simp[Op.equal,Op.maxDepth,hE 9999]
    ·simp only[ho,hq,e2,eqGuard,binOp];simp[Op.equal,Op.maxDepth,hE 9999]
   ·cases hz
  ·cases hz
 ·rename_i hv;split at hr
  case isTrue=>cases hr
  rename_i hi;simp only[aA] at hr;subst hr;have hv':=h.arg hx hv;generalize hq:a.eval x=q at hv';have h3:IR w (aV M st.slot G H) (.v (.slice none 0 0)) q:=hv';cases h3;unfold KH at hz;split at hz
  ·split at hz
   ·rename_i e ht;refine⟨_,IR.v _ rfl,fun w' _=> ?_⟩;have e2:a.eval (.const (.slice none 0 0))=.slice none 0 0:=rfl
    have hE:∀d:Nat,(Op.equalIn (d+1) t (.slice none 0 0) (.slice none 0 0)).run P w'=.ok true w':=fun d=>Lib.run_equalIn_slice_nil w' d t e _ _ _ _ _ ht
    unfold execOp;cases neg
    ·simp only[ho,hq,e2,eqGuard,binOp];simp[Op.equal,Op.maxDepth,hE 9999]
    ·simp only[ho,hq,e2,eqGuard,binOp];simp[Op.equal,Op.maxDepth,hE 9999]
   ·cases hz
  ·split at hz
   ·cases hz;exact absurd rfl hi
   ·cases hz
  ·cases hz
 ·rename_i c row es hv;split at hr
  case isTrue=>cases hr
  rename_i hi;simp only[aA] at hr;subst hr;have hv':=h.arg hx hv;generalize hq:a.eval x=q at hv';have h3:IR w (aV M st.slot G H) (.sl ((c::row)::es)) q:=hv'
  cases h3 with
  |sl k _ ad cp u hn hm hk hc hl=>
   obtain⟨b,o2,rfl,_⟩:=hl 0 (c::row) 0 rfl ai;unfold KH at hz;split at hz
   ·split at hz
    ·rename_i e ht;refine⟨_,IR.v _ rfl,fun w' _=> ?_⟩;have e2:a.eval (.const (.slice none 0 0))=.slice none 0 0:=rfl
     have hE:∀d:Nat,(Op.equalIn (d+1) t (.slice (some ⟨b,o2,none⟩) (es.length+1) cp) (.slice none 0 0)).run P w'=.ok false w':=fun d=>Lib.run_equalIn_slice_nil w' d t e _ _ _ _ _ ht
     unfold execOp;cases neg
     ·simp only[ho,hq,e2,eqGuard,binOp];simp[Op.equal,Op.maxDepth,hE 9999]
     ·simp only[ho,hq,e2,eqGuard,binOp];simp[Op.equal,Op.maxDepth,hE 9999]
    ·cases hz
   ·split at hz
    ·cases hz;exact absurd rfl hi
    ·cases hz
   ·cases hz
 ·cases hr
end
section
variable {P:Program}
variable {e t:TypeId} {o:Oper} {x:Operand}
theorem aqC{U:Option (List Nat)}{k s:Nat}{it:TypeInfo}{zv:Value}{za:List AC}{q:aP}(ho:o.op=.makeSlice t x x)(hu:P.underlying t=some (.slice e))(hi:P.info? e=some it)(hz:it.zero=some zv)(hs:it.size=k)(aY:0<k)(qI:zv.cells.size=k)(ks:it.bytes<=1000)
  (h3:Ee zv.cells.toList=some za) (hx:dO x q):
  oK P U o (fun st X=>∃n:Nat,st.sc q=some (.int .i64 n)/\n<=1000000/\(dt k n za).all inl=true/\(aI st.S s).isSome=true/\X (.w (.c (.own s ((st.slot s).gen+1)))) (st.cn s (.row e k ((st.slot s).gen+1) (rowsOf k n (dt k n za))))):=by
 intro N F M w0 w st G H a X hR hsm K Q hK;obtain⟨n,e1,e2,e3,cq,hX⟩:=hsm;obtain⟨bT,-⟩:=hR.sc hx e1
 have hrun:=run_make (P:=P) w t e it zv hu hi hz .i64 .i64 (n:Int) (n:Int) ab ab (by
  have:it.bytes*n<=1000*1000000:=nR ks e2;have:((it.bytes*n:Nat):Int)<=281474976710656:=ab
  rwa[Int.natCast_mul] at this) ab
 simp only[fJ,hs] at hrun;have hcs:cE w (aV M st.slot G H) st.slot G H (dt k n za) (madeCells zv.cells (n*k)).toList:=WZ (WW h3) qI aY
 have hl:(dt k n za).length=n*k:=by simp[dt]
 have how:(w.alloc (.cells (madeCells zv.cells (n*k)) e)).ownsRow 0 e k (.slice (some ⟨w.heap.size,0,none⟩) n n) n (madeCells zv.cells (n*k)).toList:=by
  have:=World.ownsRow_lit (base:=w.heap.size) (e:=e) (size:=k) w (madeCells zv.cells (n*k)) n ax (by simp only[maxLen];omega) (by simp[madeCells]);exact(by simpa using this:(w.alloc (.cells (madeCells zv.cells (n*k)) e)).ownsRow w.heap.size e k _ n _).mono (BM _)
 obtain⟨bM,hst⟩:=hR.newRow (w':=w.alloc (.cells (madeCells zv.cells (n*k)) e)) s cq (e:=e) (k:=k) (es:=rowsOf k n (dt k n za)) (by simp[rowsOf]) how (.inl (aeh w _ _)) (fun b hb=> .inr (by simp[Value.ownBlock] at hb;omega)) (fun w2 A2 hm=>(RB hl hcs e3).map hm);have hx:=hK _ _ _ _ (.slice (some ⟨w.heap.size,0,none⟩) n n) _ hX bM (hst U (.inr fun b hlt=>alloc_old w _ hlt)) ⟨rfl,by rw[St.mL,aq ⟨rfl,cq⟩];exact cK _,fun _ _ _ _=>ai⟩;unfold Oper.wp execOp;simp only[ho,oZ,bT,hrun,rP,tw];exact hx
theorem aqD{y:aP}(ho:o.op=.call { callee:=.builtin .len,args:=#[x],argTypes:=#[t] })(ht:P.underlying t=some (.slice e))(hx:dO x y):
  jM P false o (fun st _=>match st.rows [] (st.arg y) with |some es=>some (.w (.c (.v (.int .i64 es.length))))|none=>none):=by
 intro N F M w0 w st G H a U r h hr;dsimp only at hr;split at hr
 case h_2=>cases hr
 rename_i es hu;simp only[aA] at hr;subst hr;obtain⟨ad,c,e1,_,_⟩:=h.rows hx hu;refine⟨_,IR.v _ rfl,fun w' _=> ?_⟩;unfold execOp;simp[ho,resolve,e1,invoke,Go.builtin,Builtin.len_,lu ht,goInt]
end
variable {P:Program} {o:Oper} {t:TypeId} {x:Operand}
inductive fe where
 |mv (x:aP)
 |GL (s e k:Nat)
 |bin (op:BinOp) (x y:aP)
 |un (op:UnOp) (x:aP)
 |pick (c x y:aP)
 |len (x:aP)
 |mm (mx:Bool) (x y:aP)
 |ld1 (p:aP)
 |GM (n:Nat) (p:aP)
 |xe (p:aP) (off:Nat)
 |idx (k:Nat) (x i:aP)
 |GN (n k:Nat) (p i:aP)
 |sC (k:Nat) (x:aP) (lo hi:Option aP)
 |ext (x:aP) (i:Nat)
 |GO (x i:aP)
 |eqs (neg:Bool) (n:Nat) (x y:aP)
 |GQ (za:List AC) (qs:List (Nat×Nat×aP))
 |box (s:Nat) (x:aP)
 |alloc (s:Nat) (za:List AC)
 |uZ (k n:Nat) (za:List AC) (qs:List (Nat×Nat×aP))
 |Aj (s e k n:Nat) (za:List AC) (qs:List (Nat×Nat×aP))
 |app (e k:Nat) (x y:aP)
 |call (f:FuncId) (ys:List aP)
 |nB (f:FuncId) (ys:List aP) (D:List Nat)
 |store (n:Nat) (p x:aP)
 |Eh (k:Nat) (za:List AC) (x:aP)
 |Cf (x:aP)
 |Ei (Ai neg:Bool) (x:aP)
 |GR (x:aP) (lo hi:Option aP)
 |GU (k:IntKind) (x:aP)
 |Cg (x:aP)
 |GV (x y z:aP)
 |GX (s e k:Nat) (za:List AC) (x:aP)
 |qM (D:List Nat) (n:Nat) (p x:aP)
variable {op:fe}
def cA:fe->Option (Bool×(St->List Nat->Option AV))
 | .mv x=>some (false,fun st _=>st.arg x)
 | .bin op x y=>some (false,fun st _=>match st.sc x,st.sc y with |some u,some v=>(aW op u v).map fun r=> .w (.c (.v r))|_,_=>none)
 | .un op x=>some (false,fun st _=>match st.sc x with |some u=>(Ea op u).map fun r=> .w (.c (.v r))|_=>none)
 | .pick c x y=>some (false,fun st _=>match st.sc c with |some (.bool true)=>st.arg x|some (.bool false)=>st.arg y|_=>none)
 | .len x=>some (false,fun st _=>match st.rows [] (st.arg x) with |some es=>some (.w (.c (.v (.int .i64 es.length))))|none=>none)
 | .mm mx x y=>some (false,fun st _=>match st.sc x,st.sc y with |some u,some v=>(Gx mx u v).map fun r=> .w (.c (.v r))|_,_=>none)
 | .ld1 p=>some (true,fun st U=>match st.cells U 1 (st.arg p) with |some (c::_)=>some (.w (.c c))|_=>none)
 | .GM n p=>some (true,fun st U=>match st.cells U n (st.arg p) with |some cs=>some (.w (.agg cs))|_=>none)
 | .xe p off=>some (false,fun st _=>match st.cells [] 0 (st.arg p),st.arg p with |some _,some q=>some (q.shift off)|_,_=>none)
 | .idx k x i=>some (false,fun st _=>Eb k (st.rows [] (st.arg x)) (st.arg x) (st.sc i))
 | .GN n k p i=>some (false,fun st _=>Ru n k (st.cells [] 0 (st.arg p)) (st.arg p) (st.sc i))
 | .sC k x lo hi=>some (false,fun st _=>match st.arg x with
   |some (.w (.c (.sl es)))=>match Ed st lo,wZ st es.length hi with
    |some l,some h=>if l<=h/\h<=es.length/\∀row∈es,row.length=k then some (.w (.c (.sl ((es.take h).drop l)))) else none
    |_,_=>none
   |_=>none)
 | .ext x i=>some (false,fun st _=>match st.arg x with |some (.bD vs)=>(vs[i]?).map .w|_=>none)
 | .GO x i=>some (false,fun st _=>match st.sc x,st.sc i with |some (.string s),some (.int _ n)=>if h:0<=n/\n.toNat<s.size then some (.w (.c (.v (.int .u8 (s.get n.toNat h.2).toNat)))) else none|_,_=>none)
 | .eqs neg n x y=>some (false,fun st _=>RM neg n (st.arg x) (st.arg y))
 | .GQ za qs=>some (false,fun st _=>match qH st qs with |some r=>(nA za r).map fun cs=> .w (.agg cs)|none=>none)
 | .Ei Ai neg x=>some (false,fun st _=>RN Ai neg (st.arg x))
 | .Cf x=>some (false,fun st _=>match st.sc x with |some (.string s)=>some (.w (.c (.v (.int .i64 s.size))))|_=>none)
 | .GR x lo hi=>some (false,fun st _=>match st.sc x with
   |some (.string s)=>match Ed st lo,wZ st s.size hi with
    |some l,some h=>if l<=h/\h<=s.size then some (.w (.c (.v (.string (s.extract l h))))) else none
    |_,_=>none
   |_=>none)
 | .GU k x=>some (false,fun st _=>match st.sc x with |some (.int _ n)=>if k.wrap n=n then some (.w (.c (.v (.int k n)))) else none|_=>none)
 | .Cg p=>some (false,fun st _=>match st.cells [] 0 (st.arg p),st.arg p with |some _,some q=>some q|_,_=>none)
 | .GV x y z=>some (false,fun st _=>match st.sc x,st.sc y,st.sc z with |some (.int .i64 a),some (.int .i64 b),some (.int .i64 c)=>some (.w (.c (.v (.int .i64 (max (max a b) c)))))|_,_,_=>none)
 |_=>none
def KI (ev:St->List Nat->Option AV):GF:=fun st X=>∃x,ev st []=some x/\X x st
def aqE (x:aP)(hi:Option aP):GF:=fun st X=>∃s g e k es h,st.arg x=some (.w (.c (.own s g)))/\aI st.S s=some (.row e k g es)/\wZ st es.length hi=some h/\h<=es.length/\X (.w (.c (.own s (g+1)))) (st.cn s (.row e k (g+1) (es.take h)))
def tJ (P:Program)(U:Option (List Nat)):fe->GF
 | .GL s e k=>fun st X=>(aI st.S s).isSome=true/\X (.w (.c (.own s ((st.slot s).gen+1)))) (st.cn s (.row e k ((st.slot s).gen+1) []))
 | .box s x=>fun st X=>∃xw,st.arg x=some (.w xw)/\(aI st.S s).isSome=true/\X (.pb s ((st.slot s).gen+1) 0) (st.cn s (.box ((st.slot s).gen+1) xw.cells))
 | .alloc s za=>fun st X=>(aI st.S s).isSome=true/\X (.pb s ((st.slot s).gen+1) 0) (st.cn s (.box ((st.slot s).gen+1) za))
 | .uZ k n za qs=>fun st X=>∃pr cs,qH st qs=some pr/\nA (dt k n za) pr=some cs/\cs.all inl=true/\X (.w (.c (.sl (rowsOf k n cs)))) st
 | .Aj s e k n za qs=>fun st X=>∃pr cs,qH st qs=some pr/\nA (dt k n za) pr=some cs/\cs.all inl=true/\(aI st.S s).isSome=true/\X (.w (.c (.own s ((st.slot s).gen+1)))) (st.cn s (.row e k ((st.slot s).gen+1) (rowsOf k n cs)))
 | .app e k x y=>fun st X=>∃s g es ys,st.arg x=some (.w (.c (.own s g)))/\aI st.S s=some (.row e k g es)/\st.rows [s] (st.arg y)=some ys/\(∀row∈ys,row.length=k)/\es.length+ys.length<=100000000/\yx U s/\X (.w (.c (.own s (g+1)))) (st.cn s (.row e k (g+1) (es++ys)))
 | .call f ys=>fun st X=>∃ws R,oL st ys=some ws/\aU P f ws R/\∀r,R r->X r st
 | .nB f ys D=>aex P U f ys D
 | .store n p x=>fun st X=>∃xw st',st.arg x=some (.w xw)/\xw.cells.length=n/\st.store xw.cells (st.arg p)=some st'/\(∀s,NA (st.arg p)=some s->yx U s)/\X .u st'
 | .qM D n p x=>fun st0 X=>(fun(st:St) (X:AV->St->Prop)=>∃xw st',st.arg x=some (.w xw)/\xw.cells.length=n/\st.store xw.cells (st.arg p)=some st'/\(∀s,NA (st.arg p)=some s->yx U s)/\X .u st') (pA D st0) X
 | .Eh k za x=>fun st X=>∃n:Nat,st.sc x=some (.int .i64 n)/\n<=1000000/\(dt k n za).all inl=true/\X (.w (.c (.sl (rowsOf k n (dt k n za))))) st
 | .GX s e k za x=>fun st X=>∃n:Nat,st.sc x=some (.int .i64 n)/\n<=1000000/\(dt k n za).all inl=true/\(aI st.S s).isSome=true/\X (.w (.c (.own s ((st.slot s).gen+1)))) (st.cn s (.row e k ((st.slot s).gen+1) (rowsOf k n (dt k n za))))
 | .sC k x none hi=>fun st X=>match st.arg x with
   |some (.w (.c (.own _ _)))=>aqE x hi st X
   |_=>KI (fun st _=>match st.arg x with
    |some (.w (.c (.sl es)))=>match Ed st none,wZ st es.length hi with
     |some l,some h=>if l<=h/\h<=es.length/\∀row∈es,row.length=k then some (.w (.c (.sl ((es.take h).drop l)))) else none
     |_,_=>none
    |_=>none) st X
 |op=>match cA op with
  |some (_,ev)=>KI ev
  |none=>fun _ _=>False
def mk (P:Program)(d:Option Nat)(g:Option (Nat×Bool))(op:fe):AO:=⟨d,g,fun U=>tJ P U op,cA op⟩
def ee:Operand->Option aP
 | .tmp t=>some (.t t)
 | .const v=>match v with
  | .slice none 0 0=>some (.k (.c (.sl [])))
  |v=>if yv v then some (.k (.c (.v v))) else none
 |_=>none
theorem dI{y:aP}(h:ee x=some y):dO x y:=by
 cases x with
 |tmp t=>simp only[ee,aA] at h;subst h;rfl
 |const v=>
  simp only[ee] at h;split at h
  ·simp only[aA] at h;subst h;rfl
  ·split at h
   ·rename_i hs;simp only[aA] at h;subst h;exact⟨rfl,hs⟩
   ·cases h
 |global g=>cases h
 |func f=>cases h
def Ej:Option Operand->Option (Option aP)
 |none=>some none
 |some x=>(ee x).map some
theorem NJ{x:Option Operand}{y:Option aP}(h:Ej x=some y):Kw x y:=by
 cases x with
 |none=>simp only[Ej,aA] at h;subst h;trivial
 |some x=>
  simp only[Ej,bO] at h;obtain⟨z,hz,rfl⟩:=h;exact dI hz
def NK:List Operand->Option (List aP)
 |[]=>some []
 |x::l=>match ee x,NK l with
  |some y,some r=>some (y::r)
  |_,_=>none
theorem RO:∀{xs:List Operand} {ys:List aP},NK xs=some ys->KB xs ys
 |[],ys,h=>by simp only[NK,aA] at h;subst h;trivial
 |x::xs,ys,h=>by
  unfold NK at h;split at h
  ·rename_i y r h1 h2;simp only[aA] at h;subst h;exact⟨dI h1,RO h2⟩
  ·cases h
def KJ (pl:Nat->Option (Nat×Nat)):List (Nat×Operand)->Option (List (Nat×Nat×aP))
 |[]=>some []
 |(i,x)::l=>match pl i,ee x,KJ pl l with
  |some (off,size),some y,some r=>some ((off,size,y)::r)
  |_,_,_=>none
theorem RP {pl:Nat->Option (Nat×Nat)}:∀{xs:List (Nat×Operand)} {ys:List (Nat×Nat×aP)},KJ pl xs=some ys->GD pl xs ys
 |[],ys,h=>by simp only[KJ,aA] at h;subst h;trivial
 |(i,x)::xs,ys,h=>by
  unfold KJ at h;split at h
  ·rename_i off size y r h0 h1 h2;simp only[aA] at h;subst h;exact⟨h0,dI h1,RP h2⟩
  ·cases h
def sz (P:Program)(t:TypeId):Option Nat:=(P.info? t).map (·.size)
def elemOf (P:Program)(t:TypeId):Option TypeId:=match P.underlying t with
 |some (.slice e)=>some e
 |_=>none
theorem Ek{e:TypeId}(h:elemOf P t=some e):P.underlying t=some (.slice e):=by
 unfold elemOf at h;split at h
 ·rename_i hu;simp only[aA] at h;subst h;exact hu
 ·cases h
def sE (P:Program)(o:Oper)(op:fe):Prop:=(∀U,oK P U o (tJ P U op))/\∀m e,cA op=some (m,e)->jM P m o e
theorem jR{m:Bool}{ev:St->List Nat->Option AV}(he:cA op=some (m,ev))(hs:∀U,tJ P U op=KI ev)(h:jM P m o ev):sE P o op:=
 ⟨fun U=>by rw[hs U];exact aen h,fun m' e' h'=>by rw[he] at h';cases h';exact h⟩
theorem vf(he:cA op=none)(h:∀U,oK P U o (tJ P U op)):sE P o op:=⟨h,fun m e h'=>by rw[he] at h';cases h'⟩
structure gV where
 base:Nat
 owns:List Nat
 Xn:List (Nat×List Nat)
 mi:List (Nat×List Nat)
 eqs:List (Nat×Nat)
 aeH:List (Nat×List Nat)
 Xo:List (Nat×List (Nat×Nat×Nat×Nat×Nat))
def aqF:Option (List Nat)->Bool
 |some []=>true
 |_=>false
def RQ (P:Program)(owns:gV)(dst:Option Nat)(ty:TypeId)(x:Operand):Option fe:=match dst with
 |some d=>if owns.owns.contains d then match x with
   | .const (.slice none 0 0)=>match elemOf P ty with
    |some e=>(sz P e).map fun k=> .GL (owns.base+d) e k
    |none=>none
   |_=>(ee x).map .mv
  else match aqF (aI owns.aeH d) with
   |true=>match x with
    | .const (.slice none 0 0)=>some (.mv (.k (.c (.v (.slice none 0 0)))))
    |_=>(ee x).map .mv
   |false=>(ee x).map .mv
 |none=>none
def Xp (P:Program)(t:TypeId)(x:Operand):Option fe:=match P.underlying t,ee x with
 |some d,some y=>if d.isRow then(sz P t).map fun n=> .GM n y else some (.ld1 y)
 |_,_=>none
def aqG (owns:gV):Operand->List Nat
 | .tmp i=>(aI owns.mi (1000000+i)).getD []
 |_=>[]
def Xq (P:Program)(owns:gV)(t:TypeId)(x z:Operand):Option fe:=match sz P t,ee x,ee z with
 |some n,some y,some q=>match aqG owns x with
  |[]=>some (.store n y q)
  |s::r=>some (.qM (s::r) n y q)
 |_,_,_=>none
def Xr (P:Program)(t:TypeId)(x:Operand)(f:Nat):Option fe:=match P.underlying t,ee x with
 |some (.struct fs),some y=>match fs[f]? with
  |some fd=>match sz P fd.type with
   |some z=>if z≠0 then some (.xe y fd.offset) else none
   |none=>none
  |none=>none
 |_,_=>none
def Xs (P:Program)(t:TypeId)(x z:Operand):Option fe:=match P.underlying t,ee x,ee z with
 |some (.slice e),some y,some q=>match sz P e with
  |some k=>if 0<k then some (.idx k y q) else none
  |none=>none
 |some (.array n e),some y,some q=>(sz P e).map fun k=> .GN n k y q
 |_,_,_=>none
def isStr (P:Program)(t:TypeId):Bool:=match P.underlying t with
 |some .string=>true
 |_=>false
theorem aeI(h:isStr P t=true):P.underlying t=some .string:=by
 unfold isStr at h;split at h
 ·assumption
 ·cases h
def Xt (P:Program)(t:TypeId)(x:Operand)(lo hi mx:Option Operand):Option fe:=match isStr P t with
 |true=>match mx,ee x,Ej lo,Ej hi with
  |none,some y,some qG,some hi'=>some (.GR y qG hi')
  |_,_,_,_=>none
 |false=>match mx,elemOf P t,ee x,Ej lo,Ej hi with
  |none,some e,some y,some qG,some hi'=>(sz P e).map fun k=> .sC k y qG hi'
  |_,_,_,_,_=>none
def aeJ (P:Program)(t t':TypeId)(x:Operand):Option fe:=match P.underlying t,P.underlying t',ee x with
 |some _,some (.int k),some y=>some (.GU k y)
 |_,_,_=>none
def aeK (owns:gV)(dst:Option Nat):List Nat:=match dst with
 |some d=>(aI owns.aeH d).getD []
 |none=>[]
def Xu (P:Program)(owns:gV)(dst:Option Nat)(t:TypeId)(ps:Array (Nat×Operand)):Option fe:=match placesOf P t,zeroOf P t with
 |some pl,some z=>match BZ (aeK owns dst) 0 z,KJ pl ps.toList with
  |some za,some qs=>some (.GQ za qs)
  |_,_=>none
 |_,_=>none
def Xv (P:Program)(owns:gV)(dst:Option Nat)(t:TypeId)(n:Nat)(ps:Array (Nat×Operand)):Option fe:=match elemOf P t with
 |some e=>match sz P e,zeroOf P e with
  |some k,some z=>match Ee z,KJ (fun i=>some (i*k,k)) ps.toList with
   |some za,some qs=>if 0<k/\z.length=k/\n*k<=16777216 then match dst with
     |some d=>if owns.owns.contains d then some (.Aj (owns.base+d) e k n za qs) else some (.uZ k n za qs)
     |none=>none
    else none
   |_,_=>none
  |_,_=>none
 |none=>none
def Xw:Operand->Operand->Bool
 | .tmp a,.tmp b=>a==b
 | .const (.int .i64 n),.const (.int .i64 m)=>n==m
 |_,_=>false
theorem aqH{y:Operand}(h:Xw x y=true):x=y:=by
 unfold Xw at h;split at h
 ·simp at h;rw[h]
 ·simp at h;rw[h]
 ·cases h
def Xx (P:Program)(owns:gV)(dst:Option Nat)(t:TypeId)(x:Operand):Option fe:=match elemOf P t,ee x with
 |some e,some q=>match P.info? e with
  |some it=>match it.zero with
   |some zv=>if zv.cells.size=it.size/\0<it.size/\it.bytes<=1000 then match Ee zv.cells.toList,dst with
    |some za,some d=>if owns.owns.contains d then some (.GX (owns.base+d) e it.size za q) else some (.Eh it.size za q)
    |_,_=>none else none
   |none=>none
  |none=>none
 |_,_=>none
def Xy (P:Program)(x z:Operand)(t t':TypeId):Option fe:=if t=t' then match elemOf P t,ee x,ee z with
 |some e,some y,some q=>match P.info? e with
  |some it=>match it.zero with
   |some zv=>if zv.cells.size=it.size/\0<it.size/\it.bytes<=1000 then some (.app e it.size y q) else none
   |none=>none
  |none=>none
 |_,_,_=>none
 else none
def aqI (owns:gV)(dst:Option Nat)(f:FuncId):Option (List Nat):=match dst with
 |some d=>match aI owns.Xn (1000000+d) with
  |some D=>some D
  |none=>aI owns.Xn f
 |none=>aI owns.Xn f
def Xz (P:Program)(owns:gV)(dst:Option Nat)(c:Call):Option fe:=match c.callee with
 | .value (.func f)=>match P.funcs[f]? with
  |some fn=>if(fn.name== "runtime.NumGoroutine")=false/\fn.body.isNone=false then(NK c.args.toList).map fun ys=>match aqI owns dst f with
    |some []=> .call f ys
    |some D=> .nB f ys D
    |none=> .call f ys
   else none
  |none=>none
 | .builtin .len=>match c.args.toList,c.argTypes.toList with
  |[x],[t]=>match isStr P t with
   |true=>(ee x).map .Cf
   |false=>match elemOf P t,ee x with
    |some _,some y=>some (.len y)
    |_,_=>none
  |_,_=>none
 | .builtin .append=>match c.args.toList,c.argTypes.toList with
  |[x,z],[t,t']=>Xy P x z t t'
  |_,_=>none
 | .builtin .max=>match c.args.toList with
  |[x,z]=>match ee x,ee z with
   |some y,some q=>some (.mm true y q)
   |_,_=>none
  |[x,z,t]=>match ee x,ee z,ee t with
   |some y,some q,some r=>some (.GV y q r)
   |_,_,_=>none
  |_=>none
 | .builtin .min=>match c.args.toList with
  |[x,z]=>match ee x,ee z with
   |some y,some q=>some (.mm false y q)
   |_,_=>none
  |_=>none
 |_=>none
def RR (P:Program)(owns:gV)(o:Oper):Option fe:=match o.op with
 | .move x=>RQ P owns o.dst o.type x
 | .assign x=>RQ P owns o.dst o.type x
 | .binOp op t x y _=>match ee x,ee y with
  |some a,some b=>match op,aI owns.eqs t,KH P t y with
   | .eql,some n,_=>some (.eqs false n a b)
   | .neq,some n,_=>some (.eqs true n a b)
   | .eql,none,some i=>some (.Ei i false a)
   | .neq,none,some i=>some (.Ei i true a)
   |_,_,_=>some (.bin op a b)
  |_,_=>none
 | .unOp op _ x=>(ee x).map fun y=> .un op y
 | .pick c x y=>match ee c,ee x,ee y with
  |some a,some b,some d=>some (.pick a b d)
  |_,_,_=>none
 | .load t x=>Xp P t x
 | .store t x z=>Xq P owns t x z
 | .fieldAddr t x f=>Xr P t x f
 | .indexAddr t x z=>Xs P t x z
 | .slice t x lo hi mx=>Xt P t x lo hi mx
 | .extract x i=>(ee x).map fun y=> .ext y i
 | .index t x z=>match P.underlying t,ee x,ee z with
  |some .string,some y,some q=>some (.GO y q)
  |_,_,_=>none
 | .build t ps=>Xu P owns o.dst t ps
 | .buildSlice t n ps=>Xv P owns o.dst t n ps
 | .box _ x=>match o.dst,ee x with
  |some d,some y=>some (.box (owns.base+d) y)
  |_,_=>none
 | .alloc t=>match o.dst,zeroOf P t with
  |some d,some z=>(BZ (aeK owns (some d)) 0 z).map fun za=> .alloc (owns.base+d) za
  |_,_=>none
 | .call c=>Xz P owns o.dst c
 | .makeSlice t x y=>if Xw x y=true then Xx P owns o.dst t x else none
 | .convert t t' x=>aeJ P t t' x
 | .nilCheck x=>(ee x).map .Cg
 |_=>none
section
variable {P:Program} {owns:gV} {o:Oper} {op:fe}
variable {dst:Option Nat} {ps:Array (Nat×Operand)} {t:TypeId} {x z:Operand}
theorem aeL(ho:o.op=.move x\/o.op=.assign x)(h:RQ P owns o.dst o.type x=some op):sE P o op:=by
 have mv:(ee x).map fe.mv=some op->sE P o op:=fun h=>by
  rw[bO] at h;obtain⟨y,hy,rfl⟩:=h;exact jR rfl (fun _=>rfl) (aei ho (dI hy))
 unfold RQ at h;split at h
 case h_2=>cases h
 split at h
 ·split at h
  ·split at h
   case h_2=>cases h
   rw[bO] at h;obtain⟨k,hk,rfl⟩:=h;exact vf rfl (fun U=>apW (Or.symm ho))
  ·exact mv h
 ·split at h
  ·split at h
   ·simp only[aA] at h;subst h;exact jR rfl (fun _=>rfl) (aei ho ⟨rfl,rfl⟩)
   ·exact mv h
  ·exact mv h
theorem aqJ(ho:o.op=.load t x)(h:Xp P t x=some op):sE P o op:=by
 unfold Xp at h;split at h
 case h_2=>cases h
 rename_i d y hd hy;split at h
 ·rename_i hr;rw[bO] at h;obtain⟨n,hn,rfl⟩:=h;exact jR rfl (fun _=>rfl) (apB ho hd hr hn (dI hy))
 ·rename_i hr;simp only[aA] at h;subst h;exact jR rfl (fun _=>rfl) (apA ho hd (by simpa using hr) (dI hy))
theorem aqK(ho:o.op=.store t x z)(h:Xq P owns t x z=some op):sE P o op:=by
 unfold Xq at h;split at h
 case h_2=>cases h
 rename_i n y q hn hy hq;split at h
 ·simp only[aA] at h;subst h;exact vf rfl (fun U=>aep ho hn (dI hy) (dI hq))
 ·simp only[aA] at h;subst h;exact vf rfl (fun U=>aqj _ (aep ho hn (dI hy) (dI hq)))
theorem aqL{f:Nat}(ho:o.op=.fieldAddr t x f)(h:Xr P t x f=some op):sE P o op:=by
 unfold Xr at h;split at h
 case h_2=>cases h
 rename_i fs y hu hy;split at h
 case h_2=>cases h
 rename_i fd hf;split at h
 case h_2=>cases h
 rename_i z hz;split at h
 case isFalse=>cases h
 rename_i eZ;simp only[aA] at h;subst h;exact jR rfl (fun _=>rfl) (apC ho hu hf hz eZ (dI hy))
theorem aqM(ho:o.op=.indexAddr t x z)(h:Xs P t x z=some op):sE P o op:=by
 unfold Xs at h;split at h
 ·rename_i e y q hu hy hq;split at h
  case h_2=>cases h
  rename_i k hk;split at h
  case isFalse=>cases h
  rename_i aY;simp only[aA] at h;subst h;exact jR rfl (fun _=>rfl) (apD ho hu hk aY (dI hy) (dI hq))
 ·rename_i n e y q hu hy hq;rw[bO] at h;obtain⟨k,hk,rfl⟩:=h;exact jR rfl (fun _=>rfl) (apF ho hu hk (dI hy) (dI hq))
 ·cases h
theorem aqN{lo hi mx:Option Operand}(ho:o.op=.slice t x lo hi mx)(h:Xt P t x lo hi mx=some op):sE P o op:=by
 unfold Xt at h;split at h
 case h_1=>
  rename_i hst;split at h
  ·rename_i y qG hi' hy oJ jn;simp only[aA] at h;subst h;exact jR rfl (fun _=>rfl) (aqy ho (aeI hst) (dI hy) (NJ oJ) (NJ jn))
  ·cases h
 split at h
 case h_2=>cases h
 rename_i e y qG hi' he hy oJ jn;rw[bO] at h;obtain⟨k,hk,rfl⟩:=h;have Ag:=apJ ho (Ek he) hk (dI hy) (NJ oJ) (NJ jn)
 cases qG with
 |some p=>exact jR rfl (fun _=>rfl) Ag
 |none=>
  cases lo with
  |some p=>simp[Ej] at oJ
  |none=>
   refine⟨fun U=> ?_,fun m e' h'=>by cases h';exact Ag⟩;intro N F M w0 w st G H a X hR hs K Q hK;simp only[tJ] at hs;split at hs
   ·exact aqa (hi':=hi') ho (Ek he) hk (dI hy) (NJ jn) N F M w0 w st G H a X hR hs K Q hK
   ·exact aen Ag N F M w0 w st G H a X hR hs K Q hK
theorem aqO(ho:o.op=.build t ps)(h:Xu P owns o.dst t ps=some op):sE P o op:=by
 unfold Xu at h;split at h
 case h_2=>cases h
 rename_i pl z iV hz;split at h
 case h_2=>cases h
 rename_i za qs Ch yG;simp only[aA] at h;subst h;exact jR rfl (fun _=>rfl) (apN ho iV hz Ch (RP yG))
theorem aqP{n:Nat}(ho:o.op=.buildSlice t n ps)(h:Xv P owns o.dst t n ps=some op):sE P o op:=by
 unfold Xv at h;split at h
 case h_2=>cases h
 rename_i e he;split at h
 case h_2=>cases h
 rename_i k z hk hz;split at h
 case h_2=>cases h
 rename_i za qs Ch yG;split at h
 case isFalse=>cases h
 rename_i hc;obtain⟨h1,h2,h3⟩:=hc;split at h
 case h_2=>cases h
 split at h
 ·simp only[aA] at h;subst h;exact vf rfl (fun U=>apV ho (Ek he) hk h1 h2 h3 hz Ch (RP yG))
 ·simp only[aA] at h;subst h;exact vf rfl (fun U=>apU ho (Ek he) hk h1 h2 h3 hz Ch (RP yG))
theorem aeM{α:Type}{xs:Array α}{x:α}(h:xs.toList=[x]):xs=#[x]:=Array.ext' h
theorem RT{α:Type}{xs:Array α}{x y:α}(h:xs.toList=[x,y]):xs=#[x,y]:=Array.ext' h
theorem aqQ{α:Type}{xs:Array α}{x y z:α}(h:xs.toList=[x,y,z]):xs=#[x,y,z]:=Array.ext' h
theorem aqR(ho:o.op=.makeSlice t x x)(h:Xx P owns dst t x=some op):sE P o op:=by
 unfold Xx at h;split at h
 case h_2=>cases h
 rename_i e q he hq;split at h
 case h_2=>cases h
 rename_i it hit;split at h
 case h_2=>cases h
 rename_i zv hz;split at h
 case isFalse=>cases h
 rename_i hc;split at h
 case h_2=>cases h
 rename_i za d Ch;split at h
 ·simp only[aA] at h;subst h;exact vf rfl (fun U=>aqC ho (Ek he) hit hz rfl hc.2.1 hc.1 hc.2.2 Ch (dI hq))
 ·simp only[aA] at h;subst h;exact vf rfl (fun U=>aql ho (Ek he) hit hz rfl hc.2.1 hc.1 hc.2.2 Ch (dI hq))
theorem aqS{t':TypeId}(ho:o.op=.call { callee:=.builtin .append,args:=#[x,z],argTypes:=#[t,t'] })(h:Xy P x z t t'=some op):sE P o op:=by
 unfold Xy at h;split at h
 case isFalse=>cases h
 rename_i ht;subst ht;split at h
 case h_2=>cases h
 rename_i e y q he hy hq;split at h
 case h_2=>cases h
 rename_i it hi;split at h
 case h_2=>cases h
 rename_i zv Xb;split at h
 case isFalse=>cases h
 rename_i hc;obtain⟨h1,h2,h3⟩:=hc;simp only[aA] at h;subst h;exact vf rfl (fun U=>apX (bytes:=it.bytes) (zv:=zv) ho (Ek he) (by rw[hi];simp[Xb]) h1 h2 h3 (dI hy) (dI hq))
theorem aqT{c:Call}(ho:o.op=.call c)(h:Xz P owns dst c=some op):sE P o op:=by
 obtain⟨callee,args,ts⟩:=c;unfold Xz at h;dsimp only at h;split at h
 ·rename_i f;split at h
  case h_2=>cases h
  rename_i fn hf;split at h
  case isFalse=>cases h
  rename_i hc;rw[bO] at h;obtain⟨ys,hy,he⟩:=h;split at he
  ·subst he;exact vf rfl (fun U=>aev ho hf hc.1 hc.2 (RO hy))
  ·subst he;exact vf rfl (fun U=>aqc ho hf hc.1 hc.2 (RO hy))
  ·subst he;exact vf rfl (fun U=>aev ho hf hc.1 hc.2 (RO hy))
 ·split at h
  case h_2=>cases h
  rename_i x t hx ht;rw[aeM hx,aeM ht] at ho;split at h
  case h_1=>
   rename_i hst;rw[bO] at h;obtain⟨y,hy,rfl⟩:=h;exact jR rfl (fun _=>rfl) (aqw ho (aeI hst) (dI hy))
  split at h
  case h_2=>cases h
  rename_i e y he hy;simp only[aA] at h;subst h;exact jR rfl (fun _=>rfl) (aqD ho (Ek he) (dI hy))
 ·split at h
  case h_2=>cases h
  rename_i x z t t' hx ht;rw[RT hx,RT ht] at ho;exact aqS ho h
 ·split at h
  ·rename_i x z hx;split at h
   case h_2=>cases h
   rename_i y q hy hq;simp only[aA] at h;subst h;rw[RT hx] at ho;exact jR rfl (fun _=>rfl) (aek (mx:=true) ho (dI hy) (dI hq))
  ·rename_i x z t hx;split at h
   case h_2=>cases h
   rename_i y q r hy hq hr;simp only[aA] at h;subst h;rw[aqQ hx] at ho;exact jR rfl (fun _=>rfl) (aqA ho (dI hy) (dI hq) (dI hr))
  ·cases h
 ·split at h
  case h_2=>cases h
  rename_i x z hx;split at h
  case h_2=>cases h
  rename_i y q hy hq;simp only[aA] at h;subst h;rw[RT hx] at ho;exact jR rfl (fun _=>rfl) (aek (mx:=false) ho (dI hy) (dI hq))
 ·cases h
theorem XA {α:Type}:∀{T:List (Nat×α)} {s:Nat} {x:α},aI T s=some x->(s,x)∈T
 |[],s,x,h=>by simp[aI] at h
 |(i,y)::T,s,x,h=>by
  simp only[aI] at h;split at h
  ·rename_i hi;simp only[aA] at h;subst hi;subst h;exact MW
  ·exact jC _ (XA h)
theorem aqU(hE:∀p∈owns.eqs,sB P p.1 p.2)(h:RR P owns o=some op):sE P o op:=by
 unfold RR at h;split at h
 ·rename_i x ho;exact aeL (.inl ho) h
 ·rename_i x ho;exact aeL (.inr ho) h
 ·rename_i NL t x y t' ho;split at h
  ·rename_i p q hp hq;split at h
   ·rename_i n hn;simp only[aA] at h;subst h;exact jR rfl (fun _=>rfl) (aeF (neg:=false) ho (hE _ (XA hn)) (dI hp) (dI hq))
   ·rename_i n hn;simp only[aA] at h;subst h;exact jR rfl (fun _=>rfl) (aeF (neg:=true) ho (hE _ (XA hn)) (dI hp) (dI hq))
   ·rename_i i _ hi;simp only[aA] at h;subst h;exact jR rfl (fun _=>rfl) (aeG (neg:=false) ho hi (dI hp))
   ·rename_i i _ hi;simp only[aA] at h;subst h;exact jR rfl (fun _=>rfl) (aeG (neg:=true) ho hi (dI hp))
   ·simp only[aA] at h;subst h;exact jR rfl (fun _=>rfl) (apx ho (dI hp) (dI hq))
  ·cases h
 ·rename_i NM t x ho;rw[bO] at h;obtain⟨y,hy,rfl⟩:=h;exact jR rfl (fun _=>rfl) (apy ho (dI hy))
 ·rename_i c x y ho;split at h
  ·rename_i p q r hp hq hr;simp only[aA] at h;subst h;exact jR rfl (fun _=>rfl) (apz ho (dI hp) (dI hq) (dI hr))
  ·cases h
 ·rename_i t x ho;exact aqJ ho h
 ·rename_i t x z ho;exact aqK ho h
 ·rename_i t x f ho;exact aqL ho h
 ·rename_i t x z ho;exact aqM ho h
 ·rename_i t x lo hi mx ho;exact aqN ho h
 ·rename_i x i ho;rw[bO] at h;obtain⟨y,hy,rfl⟩:=h;exact jR rfl (fun _=>rfl) (apG ho (dI hy))
 ·rename_i t x z ho;split at h
  ·rename_i y q hu hy hq;simp only[aA] at h;subst h;exact jR rfl (fun _=>rfl) (apH ho hu (dI hy) (dI hq))
  ·cases h
 ·rename_i t ps ho;exact aqO ho h
 ·rename_i t n ps ho;exact aqP ho h
 ·rename_i t x ho;split at h
  ·rename_i d y hd hy;simp only[aA] at h;subst h;exact vf rfl (fun U=>apS ho (dI hy))
  ·cases h
 ·rename_i t ho;split at h
  ·rename_i d z hd hz;rw[bO] at h;obtain⟨za,Ch,rfl⟩:=h;exact vf rfl (fun U=>apT ho hz Ch)
  ·cases h
 ·rename_i c ho;exact aqT ho h
 ·rename_i t x y ho;split at h
  ·rename_i lZ;obtain rfl:=aqH lZ;exact aqR ho h
  ·cases h
 ·rename_i t t' x ho;unfold aeJ at h;split at h
  ·rename_i d k y hd hk hy;simp only[aA] at h;subst h;exact jR rfl (fun _=>rfl) (aqz ho (by rw[hd];rfl) hk (dI hy))
  ·cases h
 ·rename_i x ho;rw[bO] at h;obtain⟨y,hy,rfl⟩:=h;exact jR rfl (fun _=>rfl) (aqB ho (dI hy))
 ·cases h
end
structure BO where
 d:Option Nat
 g:Option (Nat×Bool)
 op:fe
inductive fk where
 |skip
 |ret
 |exit (id:Nat)
 |seq (x y:fk)
 |cond (t:aP) (x y:fk)
 |block (id:Nat) (c:fk)
 |loop (c:fk)
 |region (l:List BO)
 |tI (l:List BO) (n:Nat) (t:OT) (U:List Nat)
 |mi (s:Nat) (c:fk)
 |pC (b off s e k:Nat) (c:fk)
def BO.ao (P:Program)(b:BO):AO:=Ab.mk P b.d b.g b.op
def lift (P:Program):fk->pB
 | .skip=> .skip
 | .ret=> .ret
 | .exit id=> .exit id
 | .seq x y=> .seq (lift P x) (lift P y)
 | .cond t x y=> .cond t (lift P x) (lift P y)
 | .block id c=> .block id (lift P c)
 | .loop c=> .loop (lift P c)
 | .region l=> .region (l.map (BO.ao P))
 | .tI l n t U=> .tI (l.map (BO.ao P)) n t U
 | .mi s c=> .mi s (lift P c)
 | .pC b off s e k c=> .pC b off s e k (lift P c)
def NN:List Nat->fk->fk
 |[],b=>b
 |s::r,b=> .mi s (NN r b)
def NP:List (Nat×Nat×Nat×Nat×Nat)->fk->fk
 |[],b=>b
 |(q,off,s,e,k)::r,b=> .pC q off s e k (NP r b)
def aeN (N:Nat):Option Nat->Bool
 |some d=>decide (d<N)
 |none=>true
def NQ (P:Program)(owns:gV)(N:Nat)(ops:Array Oper)(o:Oper):Option BO:=match RR P owns o with
 |none=>none
 |some op=>if aeN N o.dst=true then match o.guard with
   |none=>some ⟨o.dst,none,op⟩
   |some (j,want)=>match(ops[j]?).bind (·.dst) with
    |some t=>some ⟨o.dst,some (t,want),op⟩
    |none=>none
  else none
def El (P:Program)(owns:gV)(N:Nat)(ops:Array Oper):List Oper->Option (List BO)
 |[]=>some []
 |o::r=>match NQ P owns N ops o,El P owns N ops r with
  |some b,some q=>some (b::q)
  |_,_=>none
abbrev Trees:=List (Nat×Nat×OT×List Nat)
def XB:Trees->Nat->Option (Nat×OT×List Nat)
 |[],_=>none
 |(i,x)::l,j=>if i=j then some x else XB l j
def gW (P:Program)(owns:gV)(N:Nat)(ts:Trees):Code->Option fk
 | .skip=>some .skip
 | .ret=>some .ret
 | .exit id=>some (.exit id)
 | .seq x y=>match gW P owns N ts x,gW P owns N ts y with
  |some a,some b=>some (.seq a b)
  |_,_=>none
 | .cond t x y=>match ee t,gW P owns N ts x,gW P owns N ts y with
  |some t,some a,some b=>some (.cond t a b)
  |_,_,_=>none
 | .block id c=>(gW P owns N ts c).map (.block id)
 | .loop c=>(gW P owns N ts c).map .loop
 | .region id ops d=>match El P owns N ops ops.toList with
  |some l=>match d with
   |false=>some (NN ((aI owns.mi id).getD []) (NP ((aI owns.Xo id).getD []) (.region l)))
   |true=>match XB ts id with
    |some (n,t,U)=>if P.follows .mixedOrders=true/\(Region.noSelect ops && rU .any ops n && pf .any ops n t n (Array.replicate ops.size false))=true then some (NN ((aI owns.mi id).getD []) (NP ((aI owns.Xo id).getD []) (.tI l n t U))) else none
    |none=>none
  |none=>none
 |_=>none
section
variable {P:Program} {owns:gV} {N:Nat} {ops:Array Oper} {ts:Trees}
theorem aqV (hE:∀p∈owns.eqs,sB P p.1 p.2){o:Oper}{b:BO}(h:NQ P owns N ops o=some b):KC P N ops o (b.ao P):=by
 unfold NQ at h;split at h
 ·cases h
 rename_i op hop;have hk:=aqU hE hop;split at h
 case isFalse=>cases h
 rename_i hd
 have hlt:∀d,o.dst=some d->d<N:=fun d e=>by rw[e] at hd;simpa [aeN] using hd
 split at h
 ·rename_i hg;simp only[aA] at h;subst h;exact⟨hk.1,rfl,hlt,by rw[hg];trivial,hk.2⟩
 ·rename_i j want hg;split at h
  ·rename_i t ht;simp only[aA] at h;subst h;exact⟨hk.1,rfl,hlt,by rw[hg];exact⟨rfl,ht⟩,hk.2⟩
  ·cases h
theorem XC (hE:∀p∈owns.eqs,sB P p.1 p.2):∀{os:List Oper} {l:List BO},El P owns N ops os=some l->sy P N ops os (l.map (BO.ao P))
 |[],l,h=>by
  simp only[El,aA] at h;subst h;exact .nil
 |o::os,l,h=>by
  unfold El at h;split at h
  ·rename_i b q h1 h2;simp only[aA] at h;subst h;exact .cons (aqV hE h1) (XC hE h2)
  ·cases h
theorem XD {c:Code}:∀(l:List Nat) {b:fk},jq P N c (lift P b)->jq P N c (lift P (NN l b))
 |[],_,h=>h
 |s::r,_,h=> .mi s (XD r h)
theorem XE {c:Code}:∀(l:List (Nat×Nat×Nat×Nat×Nat)) {b:fk},jq P N c (lift P b)->jq P N c (lift P (NP l b))
 |[],_,h=>h
 |(q,off,s,e,k)::r,_,h=> .pC q off s e k (XE r h)
theorem aeO (hE:∀p∈owns.eqs,sB P p.1 p.2):∀{c:Code} {b:fk},gW P owns N ts c=some b->jq P N c (lift P b):=by
 intro c
 induction c with
 |skip=>intro b h;simp only[gW,aA] at h;subst h;exact .skip
 |ret=>intro b h;simp only[gW,aA] at h;subst h;exact .ret
 |exit id=>intro b h;simp only[gW,aA] at h;subst h;exact .exit id
 |seq x y yC yD=>
  intro b h;unfold gW at h;split at h
  ·rename_i p q h1 h2;simp only[aA] at h;subst h;exact .seq (yC h1) (yD h2)
  ·cases h
 |cond t x y yC yD=>
  intro b h;unfold gW at h;split at h
  ·rename_i t' p q h0 h1 h2;simp only[aA] at h;subst h;exact .cond (dI h0) (yC h1) (yD h2)
  ·cases h
 |block id c ih=>
  intro b h;simp only[gW,bO] at h;obtain⟨p,hp,rfl⟩:=h;exact .block id (ih hp)
 |loop c ih=>
  intro b h;simp only[gW,bO] at h;obtain⟨p,hp,rfl⟩:=h;exact .loop (ih hp)
 |region id ops d=>
  intro b h;unfold gW at h;split at h
  ·rename_i l hl;split at h
   ·simp only[aA] at h;subst h;exact XD _ (XE _ (.region id (XC hE hl)))
   ·split at h
    ·rename_i n t U ht;split at h
     ·rename_i hc;simp only[aA] at h;subst h;exact XD _ (XE _ (jq.tI (l:=ops.toList) id n t U (XC hE hl) hc.1 hc.2))
     ·cases h
    ·cases h
  ·cases h
 |_=>intro b h;simp[gW] at h
def uV:List Nat->List (Nat×AV)
 |[]=>[]
 |i::l=>(i,.u)::uV l
def V0:List AW->Nat->List Nat->List (Nat×AV)
 |[],_,vs=>uV vs
 |a::r,k,vs=>(k,.w a)::V0 r (k+1) vs
def S0:List Nat->List (Nat×Slot)
 |[]=>[]
 |i::l=>(i,.dead 0)::S0 l
theorem XF:∀{vs:List Nat} {i:Nat} {x:AV},aI (uV vs) i=some x->x=.u
 |[],i,x,h=>by simp[uV,aI] at h
 |v::vs,i,x,h=>by
  simp only[uV,aI] at h;split at h
  ·simp only[aA] at h;exact h.symm
  ·exact XF h
theorem aeP:∀{args:List AW} {k:Nat} {vs:List Nat} {i:Nat} {x:AV},aI (V0 args k vs) i=some x->x=.u\/∃j y,i=k+j/\args[j]? =some y/\x=.w y
 |[],k,vs,i,x,h=> .inl (XF h)
 |a::r,k,vs,i,x,h=>by
  simp only[V0,aI] at h;split at h
  ·rename_i hk;simp only[aA] at h;exact .inr ⟨0,a,hk.symm,rfl,h.symm⟩
  ·rcases aeP h with h1|⟨j,y,h1,h2,h3⟩
   ·exact .inl h1
   ·exact .inr ⟨j+1,y,ab,by simpa using h2,h3⟩
theorem aeQ:∀(ss:List Nat) (s:Nat),(aI (S0 ss) s).getD (.dead 0)=.dead 0
 |[],s=>rfl
 |v::vs,s=>by
  simp only[S0,aI];split
  ·rfl
  ·exact aeQ vs s
theorem aqW (hE:∀p∈owns.eqs,sB P p.1 p.2){f:FuncId}{fn:Func}{c:Code}{b:fk}(hf:P.funcs[f]? =some fn)(hb:fn.body=some c)(ht:gW P owns fn.ntmps ts c=some b)(args:List AW)(Ce:args.length<=fn.ntmps)(vs ss:List Nat){Q:AV->Prop}
  (h:aM (lift P b) (fun e st=>(match e with | .exit _=>False|_=>True)/\∃xs,yE P st fn.results.toList=some xs/\Q (ed xs)) ⟨V0 args 0 vs,[],S0 ss⟩):aU P f args Q:=
 aqp hf hb (aeO hE ht) args Ce _ _ (fun i x hx=>by
  rcases aeP hx with h1|⟨j,y,h1,h2,h3⟩
  ·exact .inl h1
  ·rw[fu] at h1;subst h1;exact .inr ⟨y,h2,h3⟩) (aeQ ss) h
end
def St.eM (st:St)(d:Option Nat)(x:AV):St:=match d with
 |some d=>st.put d x
 |none=>st
def qN (U:Option (List Nat))(s:Nat):Bool:=match U with
 |none=>true
 |some l=>l.contains s
def aeR (U:Option (List Nat)):Option Nat->Bool
 |none=>true
 |some s=>qN U s
theorem RU {U:Option (List Nat)}{s:Nat}(h:qN U s=true):yx U s:=by
 cases U with
 |none=>trivial
 |some l=>simpa [qN,yx] using h
def dA (U:Option (List Nat))(st:St):fe->Option (AV×St)
 | .GL s e k=>if(aI st.S s).isSome=true then some (.w (.c (.own s ((st.slot s).gen+1))),st.cn s (.row e k ((st.slot s).gen+1) [])) else none
 | .box s x=>match st.arg x with
  |some (.w xw)=>if(aI st.S s).isSome=true then some (.pb s ((st.slot s).gen+1) 0,st.cn s (.box ((st.slot s).gen+1) xw.cells)) else none
  |_=>none
 | .alloc s za=>if(aI st.S s).isSome=true then some (.pb s ((st.slot s).gen+1) 0,st.cn s (.box ((st.slot s).gen+1) za)) else none
 | .uZ k n za qs=>match qH st qs with
  |some pr=>match nA (dt k n za) pr with
   |some cs=>if cs.all inl=true then some (.w (.c (.sl (rowsOf k n cs))),st) else none
   |none=>none
  |none=>none
 | .Aj s e k n za qs=>match qH st qs with
  |some pr=>match nA (dt k n za) pr with
   |some cs=>if cs.all inl=true/\(aI st.S s).isSome=true then some (.w (.c (.own s ((st.slot s).gen+1))),st.cn s (.row e k ((st.slot s).gen+1) (rowsOf k n cs))) else none
   |none=>none
  |none=>none
 | .app e k x y=>match st.arg x with
  |some (.w (.c (.own s g)))=>match aI st.S s with
   |some (.row e' k' g' es)=>match st.rows [s] (st.arg y) with
    |some ys=>if(e=e'/\k=k'/\g=g')/\(∀row∈ys,row.length=k)/\es.length+ys.length<=100000000/\qN U s=true then some (.w (.c (.own s (g+1))),st.cn s (.row e k (g+1) (es++ys))) else none
    |none=>none
   |_=>none
  |_=>none
 | .store n p x=>match st.arg x with
  |some (.w xw)=>match st.store xw.cells (st.arg p) with
   |some st'=>if xw.cells.length=n/\aeR U (NA (st.arg p))=true then some (.u,st') else none
   |none=>none
  |_=>none
 | .Eh k za x=>match st.sc x with
  |some (.int .i64 n)=>if 0<=n/\n<=1000000/\(dt k n.toNat za).all inl=true then some (.w (.c (.sl (rowsOf k n.toNat (dt k n.toNat za)))),st) else none
  |_=>none
 | .GX s e k za x=>match st.sc x with
  |some (.int .i64 n)=>if 0<=n/\n<=1000000/\(dt k n.toNat za).all inl=true/\(aI st.S s).isSome=true then some (.w (.c (.own s ((st.slot s).gen+1))),st.cn s (.row e k ((st.slot s).gen+1) (rowsOf k n.toNat (dt k n.toNat za)))) else none
  |_=>none
 | .sC k x none hi=>match st.arg x with
  |some (.w (.c (.own s g)))=>match aI st.S s with
   |some (.row e k' g' es)=>match wZ st es.length hi with
    |some h=>if g=g'/\h<=es.length then some (.w (.c (.own s (g+1))),st.cn s (.row e k' (g+1) (es.take h))) else none
    |none=>none
   |_=>none
  |_=>match cA (.sC k x none hi) with
   |some (_,ev)=>(ev st []).map fun x=>(x,st)
   |none=>none
 | .call _ _=>none
 | .nB _ _ _=>none
 | .qM _ _ _ _=>none
 |op=>match cA op with
  |some (_,ev)=>(ev st []).map fun x=>(x,st)
  |none=>none
section
variable {P:Program}
variable {K:St->Prop} {Q:gM->St->Prop} {U:Option (List Nat)} {X:AV->St->Prop} {b:BO} {c:fk} {d:Option Nat} {f:FuncId} {op:fe} {r:List BO} {st st':St} {ws:List AW} {x:AV} {ys:List aP}
theorem XG(h:dA U st op=some (x,st'))(hX:X x st'):tJ P U op st X:=by
 have rd:∀(ev:St->List Nat->Option AV),((ev st []).map fun x=>(x,st))=some (x,st')->KI ev st X:=fun ev h=>by
  rw[bO] at h;obtain⟨y,hy,he⟩:=h;cases he;exact⟨x,hy,hX⟩
 cases op with
 |GL s e k=>
  simp only[dA] at h;split at h
  ·rename_i hs;simp only[aA,jE] at h;obtain⟨rfl,rfl⟩:=h;exact⟨hs,hX⟩
  ·cases h
 |box s y=>
  simp only[dA] at h;split at h
  ·rename_i xw hy;split at h
   ·rename_i hs;simp only[aA,jE] at h;obtain⟨rfl,rfl⟩:=h;exact⟨xw,hy,hs,hX⟩
   ·cases h
  ·cases h
 |alloc s za=>
  simp only[dA] at h;split at h
  ·rename_i hs;simp only[aA,jE] at h;obtain⟨rfl,rfl⟩:=h;exact⟨hs,hX⟩
  ·cases h
 |Eh k za y=>
  simp only[dA] at h;split at h
  ·rename_i n hn;split at h
   ·rename_i hc;simp only[aA,jE] at h;obtain⟨rfl,rfl⟩:=h;exact⟨n.toNat,by rw[hn,Int.toNat_of_nonneg hc.1],ab,hc.2.2,hX⟩
   ·cases h
  ·cases h
 |GX s e k za y=>
  simp only[dA] at h;split at h
  ·rename_i n hn;split at h
   ·rename_i hc;simp only[aA,jE] at h;obtain⟨rfl,rfl⟩:=h;exact⟨n.toNat,by rw[hn,Int.toNat_of_nonneg hc.1],ab,hc.2.2.1,hc.2.2.2,hX⟩
   ·cases h
  ·cases h
 |uZ k n za qs=>
  simp only[dA] at h;split at h
  ·rename_i pr XH;split at h
   ·rename_i cs hcs;split at h
    ·rename_i hi;simp only[aA,jE] at h;obtain⟨rfl,rfl⟩:=h;exact⟨pr,cs,XH,hcs,hi,hX⟩
    ·cases h
   ·cases h
  ·cases h
 |Aj s e k n za qs=>
  simp only[dA] at h;split at h
  ·rename_i pr XH;split at h
   ·rename_i cs hcs;split at h
    ·rename_i hi;simp only[aA,jE] at h;obtain⟨rfl,rfl⟩:=h;exact⟨pr,cs,XH,hcs,hi.1,hi.2,hX⟩
    ·cases h
   ·cases h
  ·cases h
 |app e k y z=>
  simp only[dA] at h;split at h
  ·rename_i s g hy;split at h
   ·rename_i e' k' g' es hs;split at h
    ·rename_i ys hys;split at h
     ·rename_i hc;obtain⟨⟨rfl,rfl,rfl⟩,h2,h3,h4⟩:=hc;simp only[aA,jE] at h;obtain⟨rfl,rfl⟩:=h;exact⟨s,g,es,ys,hy,hs,hys,h2,h3,RU h4,hX⟩
     ·cases h
    ·cases h
   ·cases h
  ·cases h
 |store n p y=>
  simp only[dA] at h;split at h
  ·rename_i xw hy;split at h
   ·rename_i st2 hst;split at h
    ·rename_i hc;simp only[aA,jE] at h;obtain⟨rfl,rfl⟩:=h;exact⟨xw,_,hy,hc.1,hst,fun s hs=>by have:=hc.2;rw[hs] at this;exact RU this,hX⟩
    ·cases h
   ·cases h
  ·cases h
 |sC k y lo hi=>
  cases lo with
  |none=>
   simp only[dA] at h;simp only[tJ];split at h
   ·rename_i s g hy
    try rw[hy]
    split at h
    ·rename_i e k' g' es hs;split at h
     ·rename_i hh jn;split at h
      ·rename_i hc;obtain⟨rfl,h2⟩:=hc;simp only[aA,jE] at h;obtain⟨rfl,rfl⟩:=h;exact⟨s,g,e,k',es,hh,hy,hs,jn,h2,hX⟩
      ·cases h
     ·cases h
    ·cases h
   ·rename_i hne;have h2:=rd ((cA (.sC k y none hi)).get rfl).2 h
    first
    |exact h2
    |(split
      ·rename_i s g hy;exact absurd hy (hne s g)
      ·exact h2)
  |some lo=>exact rd ((cA (.sC k y (some lo) hi)).get rfl).2 h
 |call f ys=>simp[dA] at h
 |nB f ys D=>simp[dA] at h
 |qM D n p y=>simp[dA] at h
 |mv y=>exact rd ((cA (.mv y)).get rfl).2 h
 |bin NL y z=>exact rd ((cA (.bin NL y z)).get rfl).2 h
 |un NM y=>exact rd ((cA (.un NM y)).get rfl).2 h
 |pick c y z=>exact rd ((cA (.pick c y z)).get rfl).2 h
 |len y=>exact rd ((cA (.len y)).get rfl).2 h
 |mm mx y z=>exact rd ((cA (.mm mx y z)).get rfl).2 h
 |ld1 p=>exact rd ((cA (.ld1 p)).get rfl).2 h
 |GM n p=>exact rd ((cA (.GM n p)).get rfl).2 h
 |xe p off=>exact rd ((cA (.xe p off)).get rfl).2 h
 |idx k y i=>exact rd ((cA (.idx k y i)).get rfl).2 h
 |GN n k p i=>exact rd ((cA (.GN n k p i)).get rfl).2 h
 |ext y i=>exact rd ((cA (.ext y i)).get rfl).2 h
 |GO y i=>exact rd ((cA (.GO y i)).get rfl).2 h
 |Cf y=>exact rd ((cA (.Cf y)).get rfl).2 h
 |Ei i g y=>exact rd ((cA (.Ei i g y)).get rfl).2 h
 |GR y lo hi=>exact rd ((cA (.GR y lo hi)).get rfl).2 h
 |GU kk y=>exact rd ((cA (.GU kk y)).get rfl).2 h
 |Cg y=>exact rd ((cA (.Cg y)).get rfl).2 h
 |GV y z t=>exact rd ((cA (.GV y z t)).get rfl).2 h
 |GQ za qs=>exact rd ((cA (.GQ za qs)).get rfl).2 h
 |eqs neg n y z=>exact rd ((cA (.eqs neg n y z)).get rfl).2 h
def mO (U:Option (List Nat))(st:St)(b:BO):Option St:=match b.g with
 |none=>(dA U st b.op).map fun p=>p.2.eM b.d p.1
 |some (t,want)=>match lH (st.arg (.t t)) want with
  |some true=>(dA U st b.op).map fun p=>p.2.eM b.d p.1
  |some false=>some (st.eM b.d (.bD []))
  |none=>none
theorem RW(st:St)(b:BO)(x:AV):st.ma (b.ao P) x=st.eM b.d x:=rfl
theorem aeS(h:mO U st b=some st')(hK:K st'):sx U (b.ao P) K st:=by
 have go:((dA U st b.op).map fun p=>p.2.eM b.d p.1)=some st'->(b.ao P).xa U st fun x st2=>K (st2.ma (b.ao P) x):=fun h=>by
  rw[bO] at h;obtain⟨⟨x,st2⟩,h1,h2⟩:=h;exact XG h1 (by rw[RW];dsimp only at h2;rw[h2];exact hK)
 obtain⟨d,g,op⟩:=b;unfold mO at h;dsimp only at h;unfold sx
 cases g with
 |none=>exact go h
 |some p=>
  obtain⟨t,want⟩:=p;dsimp only at h
  show(match lH (st.arg (.t t)) want with
   |some true=>_
   |some false=>_
   |none=>False)
  split at h
  ·exact go h
  ·simp only[aA] at h;rw[RW,h];exact hK
  ·cases h
theorem bh(h:mO U st b=some st')(hr:bt U (r.map (BO.ao P)) K st'):bt U ((b::r).map (BO.ao P)) K st:=aeS h hr
theorem bz(h:K st):bt U (([]:List BO).map (BO.ao P)) K st:=h
theorem aeT{R:AV->Prop}(ha:oL st ys=some ws)(hC:aU P f ws R)(hr:∀x,R x->bt U (r.map (BO.ao P)) K (st.eM d x)):
  bt U ((⟨d,none,.call f ys⟩::r:List BO).map (BO.ao P)) K st:=⟨ws,R,ha,hC,fun x hx=>hr x hx⟩
theorem Em(ha:oL st ys=some ws)(hC:aU P f ws (fun y=>y=x))(hr:bt U (r.map (BO.ao P)) K (st.eM d x)):
  bt U ((⟨d,none,.call f ys⟩::r:List BO).map (BO.ao P)) K st:=aeT ha hC fun y hy=>by rw[hy];exact hr
theorem aqX{l:List BO}{V L:List (Nat×AV)}{S:List (Nat×Slot)}(h:bt none (l.map (BO.ao P)) (Q .normal) ⟨V,[],S⟩):aM (lift P (.region l)) Q ⟨V,L,S⟩:=h
theorem RX{t:aP}{x y:fk}{b:Bool}(hb:st.sc t=some (.bool b))(h:aM (lift P (if b then x else y)) Q st):aM (lift P (.cond t x y)) Q st:=by
 show(match st.sc t with
  |some (.bool true)=>_
  |some (.bool false)=>_
  |_=>False)
 rw[hb];cases b<;>exact h
theorem aqY{id:Nat}(h:aM (lift P c) (mj id Q) st):aM (lift P (.block id c)) Q st:=h
theorem aeU{Y:AV->St->Prop}(tK:∀x st,X x st->Y x st)(h:tJ P U op st X):tJ P U op st Y:=by
 have rd:∀(ev:St->List Nat->Option AV),KI ev st X->KI ev st Y:=fun ev ⟨x,h1,h2⟩=>⟨x,h1,tK _ _ h2⟩
 cases op with
 |GL s e k=>exact⟨h.1,tK _ _ h.2⟩
 |box s y=>obtain⟨xw,h1,h2,h3⟩:=h;exact⟨xw,h1,h2,tK _ _ h3⟩
 |alloc s za=>exact⟨h.1,tK _ _ h.2⟩
 |uZ k n za qs=>obtain⟨a,b,h1,h2,h3,h4⟩:=h;exact⟨a,b,h1,h2,h3,tK _ _ h4⟩
 |Eh k za y=>obtain⟨n,h1,h2,h3,h4⟩:=h;exact⟨n,h1,h2,h3,tK _ _ h4⟩
 |GX s e k za y=>obtain⟨n,h1,h2,h3,h4,h5⟩:=h;exact⟨n,h1,h2,h3,h4,tK _ _ h5⟩
 |Aj s e k n za qs=>obtain⟨a,b,h1,h2,h3,h4,h5⟩:=h;exact⟨a,b,h1,h2,h3,h4,tK _ _ h5⟩
 |app e k y z=>obtain⟨s,g,es,ys,h1,h2,h3,h4,h5,h6,h7⟩:=h;exact⟨s,g,es,ys,h1,h2,h3,h4,h5,h6,tK _ _ h7⟩
 |store n p y=>obtain⟨xw,st',h1,h2,h3,h4,h5⟩:=h;exact⟨xw,st',h1,h2,h3,h4,tK _ _ h5⟩
 |qM D n p y=>obtain⟨xw,st',h1,h2,h3,h4,h5⟩:=h;exact⟨xw,st',h1,h2,h3,h4,tK _ _ h5⟩
 |call f ys=>obtain⟨ws,R,h1,h2,h3⟩:=h;exact⟨ws,R,h1,h2,fun r hr=>tK _ _ (h3 r hr)⟩
 |nB f ys D=>obtain⟨ws,R,h1,h2,h3,h4,h5,h6⟩:=h;exact⟨ws,R,h1,h2,h3,h4,h5,fun r S' hr=>⟨(h6 r S' hr).1,tK _ _ (h6 r S' hr).2⟩⟩
 |sC k y lo hi=>
  cases lo with
  |some lo=>exact rd ((cA (.sC k y (some lo) hi)).get rfl).2 h
  |none=>
   simp only[tJ] at h⊢;split at h
   ·obtain⟨s,g,e,k,es,hh,h1,h2,h3,h4,h5⟩:=h;exact⟨s,g,e,k,es,hh,h1,h2,h3,h4,tK _ _ h5⟩
   ·exact rd _ h
 |mv y=>exact rd ((cA (.mv y)).get rfl).2 h
 |bin NL y z=>exact rd ((cA (.bin NL y z)).get rfl).2 h
 |un NM y=>exact rd ((cA (.un NM y)).get rfl).2 h
 |pick c y z=>exact rd ((cA (.pick c y z)).get rfl).2 h
 |len y=>exact rd ((cA (.len y)).get rfl).2 h
 |mm mx y z=>exact rd ((cA (.mm mx y z)).get rfl).2 h
 |ld1 p=>exact rd ((cA (.ld1 p)).get rfl).2 h
 |GM n p=>exact rd ((cA (.GM n p)).get rfl).2 h
 |xe p off=>exact rd ((cA (.xe p off)).get rfl).2 h
 |idx k y i=>exact rd ((cA (.idx k y i)).get rfl).2 h
 |GN n k p i=>exact rd ((cA (.GN n k p i)).get rfl).2 h
 |ext y i=>exact rd ((cA (.ext y i)).get rfl).2 h
 |GO y i=>exact rd ((cA (.GO y i)).get rfl).2 h
 |Cf y=>exact rd ((cA (.Cf y)).get rfl).2 h
 |Ei i g y=>exact rd ((cA (.Ei i g y)).get rfl).2 h
 |GR y lo hi=>exact rd ((cA (.GR y lo hi)).get rfl).2 h
 |GU kk y=>exact rd ((cA (.GU kk y)).get rfl).2 h
 |Cg y=>exact rd ((cA (.Cg y)).get rfl).2 h
 |GV y z t=>exact rd ((cA (.GV y z t)).get rfl).2 h
 |GQ za qs=>exact rd ((cA (.GQ za qs)).get rfl).2 h
 |eqs neg n y z=>exact rd ((cA (.eqs neg n y z)).get rfl).2 h
theorem GY{K':St->Prop}(hK:∀st,K st->K' st)(h:sx U (b.ao P) K st):sx U (b.ao P) K' st:=by
 obtain⟨d,g,op⟩:=b
 cases g with
 |none=>exact aeU (fun x st hx=>hK _ hx) h
 |some p=>
  obtain⟨t,want⟩:=p
  change (match lH (st.arg (.t t)) want with
   |some true=>tJ P U op st _
   |some false=>_
   |none=>False) at h
  change (match lH (st.arg (.t t)) want with
   |some true=>tJ P U op st _
   |some false=>_
   |none=>False)
  split at h
  ·exact aeU (fun x st hx=>hK _ hx) h
  ·exact hK _ h
  ·exact h.elim
theorem RY {U:Option (List Nat)}:∀{l:List BO} {st:St} {K K':St->Prop},(∀st,K st->K' st)->bt U (l.map (BO.ao P)) K st->bt U (l.map (BO.ao P)) K' st
 |[],st,K,K',hK,h=>hK _ h
 |b::l,st,K,K',hK,h=>GY (fun st h=>RY hK h) h
theorem yH {U:List Nat}{l tl:List BO}{K K':St->Prop}(hK:∀st,K st->K' st):∀{t:OT} {bp:Bool} {st:St},aX U (l.map (BO.ao P)) (tl.map (BO.ao P)) K t bp st->aX U (l.map (BO.ao P)) (tl.map (BO.ao P)) K' t bp st
 | .nil,bp,st,h=>RY hK h
 | .take i t,bp,st,h=>by
  unfold aX at h⊢;split at h
  ·exact h.elim
  ·split at h
   ·exact h.elim
   ·refine⟨h.1,?_⟩;have h2:=h.2;split at h2
    ·obtain⟨x,h3,h4⟩:=h2;exact⟨x,h3,yH hK h4⟩
    ·split at h2
     ·obtain⟨x,h3,h4⟩:=h2;exact⟨x,h3,yH hK h4⟩
     ·exact yH hK h2
     ·exact h2.elim
 | .move i t,bp,st,h=>by
  unfold aX at h⊢;rw[fh] at h⊢
  cases hl:l[i]? with
  |none=>rw[hl] at h;exact h.elim
  |some b=>rw[hl] at h;exact GY (b:=b) (fun st h=>yH hK h) h
 | .fork i j ti tj,bp,st,h=>by
  unfold aX at h⊢;obtain⟨h1,h2⟩:=h;rw[fh] at h1 h2;rw[fh,fh];refine⟨?_,?_⟩
  ·cases hl:l[i]? with
   |none=>rw[hl] at h1;exact h1.elim
   |some b=>rw[hl] at h1;exact GY (b:=b) (fun st h=>yH hK h) h1
  ·cases hl:l[j]? with
   |none=>rw[hl] at h2;exact h2.elim
   |some b=>rw[hl] at h2;exact GY (b:=b) (fun st h=>yH hK h) h2
 | .wQ i j k ti tj tk,bp,st,h=>by
  unfold aX at h⊢;obtain⟨h1,h2,h3⟩:=h;rw[fh] at h1 h2 h3;rw[fh,fh,fh];refine⟨?_,?_,?_⟩
  ·cases hl:l[i]? with
   |none=>rw[hl] at h1;exact h1.elim
   |some b=>rw[hl] at h1;exact GY (b:=b) (fun st h=>yH hK h) h1
  ·cases hl:l[j]? with
   |none=>rw[hl] at h2;exact h2.elim
   |some b=>rw[hl] at h2;exact GY (b:=b) (fun st h=>yH hK h) h2
  ·cases hl:l[k]? with
   |none=>rw[hl] at h3;exact h3.elim
   |some b=>rw[hl] at h3;exact GY (b:=b) (fun st h=>yH hK h) h3
theorem vg:∀{c:fk} {Q Q':gM->St->Prop} {st:St},(∀e st,Q e st->Q' e st)->aM (lift P c) Q st->aM (lift P c) Q' st
 | .skip,Q,Q',st,hQ,h=>hQ _ _ h
 | .ret,Q,Q',st,hQ,h=>hQ _ _ h
 | .exit id,Q,Q',st,hQ,h=>hQ _ _ h
 | .seq x y,Q,Q',st,hQ,h=>by
  refine vg (c:=x) (fun e st' he=> ?_) h
  cases e with
  |normal=>exact vg (c:=y) hQ he
  |exit id=>exact hQ _ _ he
  |ret=>exact hQ _ _ he
 | .cond t x y,Q,Q',st,hQ,h=>by
  unfold lift aM at h⊢;split at h
  ·rename_i hb;exact vg (c:=x) hQ h
  ·rename_i hb;exact vg (c:=y) hQ h
  ·exact h.elim
 | .block id c,Q,Q',st,hQ,h=>by
  refine vg (c:=c) (fun e st' he=> ?_) h
  cases e with
  |normal=>exact hQ _ _ he
  |exit pD=>
   unfold mj at he⊢;dsimp only at he⊢;split at he
   ·rename_i hi;rw[aq hi];exact hQ _ _ he
   ·rename_i hi;rw[af hi];exact hQ _ _ he
  |ret=>exact hQ _ _ he
 | .loop c,Q,Q',st,hQ,h=>by
  obtain⟨n,hn⟩:=h;refine⟨n,?_⟩
  have key:∀n st,GJ (aM (lift P c)) Q n st->GJ (aM (lift P c)) Q' n st:=by
   intro n
   induction n with
   |zero=>intro st h;exact h
   |succ n ih=>
    intro st h;refine vg (c:=c) (fun e st' he=> ?_) h
    cases e with
    |normal=>exact ih _ he
    |exit id=>exact hQ _ _ he
    |ret=>exact hQ _ _ he
  exact key n st hn
 | .mi s c,Q,Q',st,hQ,h=>vg (c:=c) (st:=st.freeze s) hQ h
 | .pC b off s e k c,Q,Q',st,hQ,h=>vg (c:=c) (st:=st.mh b off s e k) hQ h
 | .region l,Q,Q',st,hQ,h=>RY (fun st h=>hQ _ _ h) h
 | .tI l n t U,Q,Q',st,hQ,h=>by
  have hd:(l.map (BO.ao P)).drop n=(l.drop n).map (BO.ao P):=by rw[List.map_drop]
  unfold lift aM at h⊢;rw[hd] at h⊢;exact yH (fun st h=>hQ _ _ h) h
theorem aqZ(I:Nat->St->Prop){n:Nat}(h0:I n st)(hr:∀n st,I n st->aM (lift P c) (lI (fun st'=>∃m,m<n/\I m st') Q) st):aM (lift P (.loop c)) Q st:=by
 have key:∀k n,n<=k->∀st,I n st->GJ (aM (lift P c)) Q (k+1) st:=by
  intro k
  induction k with
  |zero=>
   intro n hn st hI;refine vg (fun e st' he=> ?_) (hr n st hI)
   cases e with
   |normal=>obtain⟨m,hm,_⟩:=he;omega
   |exit id=>exact he
   |ret=>exact he
  |succ k ih=>
   intro n hn st hI;refine vg (fun e st' he=> ?_) (hr n st hI)
   cases e with
   |normal=>obtain⟨m,hm,hI'⟩:=he;exact ih m ab st' hI'
   |exit id=>exact he
   |ret=>exact he
 exact⟨n+1,key n n ax st h0⟩
end
inductive RV where
 |t (i:Nat)
 |cell (p n:Nat)
 |cell1 (p:Nat)
def GZ (P:Program):ResultVar->Option RV
 | .tmp t=>some (.t t)
 | .cell p ty=>match(P.info? ty).map (·.size),P.underlying ty with
  |some n,some d=>if d.isRow then some (.cell p n) else some (.cell1 p)
  |_,_=>none
def vh (P:Program):List ResultVar->Option (List RV)
 |[]=>some []
 |r::l=>match GZ P r,vh P l with
  |some x,some q=>some (x::q)
  |_,_=>none
def Ci (st:St):RV->Option AW
 | .t i=>match st.get i with
  |some (.w x)=>st.qL x
  |_=>none
 | .cell p n=>match st.cells [] n (st.get p) with
  |some cs=>st.qL (.agg cs)
  |none=>none
 | .cell1 p=>match st.cells [] 1 (st.get p) with
  |some [c]=>st.qL (.c c)
  |_=>none
def Ak (st:St):List RV->Option (List AW)
 |[]=>some []
 |r::l=>match Ci st r,Ak st l with
  |some x,some q=>some (x::q)
  |_,_=>none
section
variable {P:Program} {owns:gV} {ts:Trees}
theorem ara {st:St}{r:ResultVar}{q:RV}{x:AW}(h:GZ P r=some q)(hx:Ci st q=some x):Eg P st r=some x:=by
 cases r with
 |tmp t=>simp only[GZ,aA] at h;subst h;exact hx
 |cell p ty=>
  simp only[GZ] at h;split at h
  ·rename_i n d hn hd;simp only[Eg,hn,hd];split at h
   ·rename_i hr;simp only[aA] at h;subst h;rw[aq hr];simp only[Ci] at hx;split at hx
    ·rename_i cs hc;rw[hc];exact hx
    ·cases hx
   ·rename_i hr;simp only[aA] at h;subst h;rw[af hr];simp only[Ci] at hx;split at hx
    ·rename_i c hc;rw[hc];exact hx
    ·cases hx
  ·cases h
theorem XI {st:St}:∀{rs:List ResultVar} {qs:List RV} {xs:List AW},vh P rs=some qs->Ak st qs=some xs->yE P st rs=some xs
 |[],qs,xs,h,hx=>by simp only[vh,aA] at h;subst h;exact hx
 |r::rs,qs,xs,h,hx=>by
  unfold vh at h;split at h
  ·rename_i q l h1 h2;simp only[aA] at h;subst h;unfold Ak at hx;split at hx
   ·rename_i x l' g1 g2;simp only[aA] at hx;subst hx;unfold yE;rw[ara h1 g1,XI h2 g2]
   ·cases hx
  ·cases h
def RZ (rv:List RV)(Q:AV->Prop):gM->St->Prop
 | .exit _,_=>False
 |_,st=>∃xs,Ak st rv=some xs/\Q (ed xs)
theorem aeV (hE:∀p∈owns.eqs,sB P p.1 p.2){f:FuncId}{fn:Func}{c:Code}{b:fk}(hf:P.funcs[f]? =some fn)(hb:fn.body=some c)(ht:gW P owns fn.ntmps ts c=some b)(rv:List RV)(pE:vh P fn.results.toList=some rv)(args:List AW)(Ce:Nat.ble args.length fn.ntmps=true)(vs ss:List Nat){Q:AV->Prop}
  (h:aM (lift P b) (RZ rv Q) ⟨V0 args 0 vs,[],S0 ss⟩):aU P f args Q:=
 aqW hE hf hb ht args (tr Ce) vs ss (vg (fun e st he=>by
  cases e with
  |normal=>obtain⟨xs,h1,h2⟩:=he;exact⟨trivial,xs,XI pE h1,h2⟩
  |exit id=>exact he.elim
  |ret=>obtain⟨xs,h1,h2⟩:=he;exact⟨trivial,xs,XI pE h1,h2⟩) h)
variable {Q:gM->St->Prop} {V L:List (Nat×AV)} {S:List (Nat×Slot)} {st:St} {x y z:fk}
variable {D U:List Nat} {K:St->Prop} {b e i id j k:Nat} {d:Option Nat} {f:FuncId} {l r:List BO} {p q:aP} {st st':St} {t ti tj:OT} {tl:List AO} {ws:List AW} {ys:List aP}
theorem En{U:Option (List Nat)}{s g:Nat}{u v:aP}{es ys:List (List AC)}(hx:st.arg u=some (.w (.c (.own s g))))(hs:aI st.S s=some (.row e k g es))(hy:st.rows [s] (st.arg v)=some ys)(hk:∀row∈ys,row.length=k)(hl:es.length+ys.length<=100000000)(hU:qN U s=true)
  (hst:(st.cn s (.row e k (g+1) (es++ys))).eM d (.w (.c (.own s (g+1))))=st') (h:bt U (r.map (BO.ao P)) K st'):bt U ((⟨d,none,.app e k u v⟩::r:List BO).map (BO.ao P)) K st:=by
 subst hst;refine bh ?_ h
 have hw:dA U st (.app e k u v)=some (.w (.c (.own s (g+1))),st.cn s (.row e k (g+1) (es++ys))):=by
  unfold dA;dsimp only;rw[hx];dsimp only;rw[hs];dsimp only;rw[hy];dsimp only;rw[aq ⟨⟨rfl,rfl,rfl⟩,hk,hl,hU⟩]
 unfold mO;dsimp only;rw[hw];rfl
theorem aeW{U:Option (List Nat)}{x:AV}{t:Nat}{want:Bool}(hg:st.sc (.t t)=some (.bool want))(ha:oL st ys=some ws)(hC:aU P f ws (fun y=>y=x))(hr:bt U (r.map (BO.ao P)) K (st.eM d x)):
  bt U ((⟨d,some (t,want),.call f ys⟩::r:List BO).map (BO.ao P)) K st:=by
 show(match lH (st.arg (.t t)) want with
  |some true=>_
  |some false=>_
  |none=>False)
 have hw:lH (st.arg (.t t)) want=some true:=by
  unfold St.sc Gw at hg;split at hg
  ·rename_i u hu;rw[hu];cases hg;cases want<;>rfl
  ·cases hg
 rw[hw];exact⟨ws,_,ha,hC,fun y hy=>by rw[hy];exact hr⟩
theorem aeX{U:Option (List Nat)}{n:Nat}{x:aP}(hx:mO U (pA D st) ⟨d,none,.store n p x⟩=some st')(hK:K st'):sx U ((⟨d,none,.qM D n p x⟩:BO).ao P) K st:=by
 unfold mO at hx;dsimp only at hx;rw[bO] at hx;obtain⟨⟨y,st2⟩,h1,h2⟩:=hx;exact XG (P:=P) (X:=fun x st2=>K (st2.ma ((⟨d,none,.qM D n p _⟩:BO).ao P) x)) h1 (by rw[RW];dsimp only at h2⊢;rw[h2];exact hK)
theorem aeY{U:Option (List Nat)}{n:Nat}(hx:mO U (pA D st) ⟨d,none,.store n p q⟩=some st')(h:bt U (r.map (BO.ao P)) K st'):bt U ((⟨d,none,.qM D n p q⟩::r:List BO).map (BO.ao P)) K st:=aeX hx h
theorem k_reg(h:bt none (l.map (BO.ao P)) (fun st=>aM (lift P y) Q st) ⟨V,[],S⟩):aM (lift P (.seq (.region l) y)) Q ⟨V,L,S⟩:=h
theorem Al(h:bt none (l.map (BO.ao P)) (fun st=>Q .normal st) ⟨V,[],S⟩):aM (lift P (.region l)) Q ⟨V,L,S⟩:=h
theorem il(h:aM (lift P (.seq x (.seq y z))) Q st):aM (lift P (.seq (.seq x y) z)) Q st:=vg (c:=x) (fun e st' he=>by
 cases e with
 |normal=>exact he
 |exit id=>exact he
 |ret=>exact he) h
theorem lJ{t:aP}(b:Bool)(hb:st.sc t=some (.bool b))(h:aM (lift P (.seq (bif b then x else y) z)) Q st):aM (lift P (.seq (.cond t x y) z)) Q st:=RX (x:=x) (y:=y) hb (by cases b<;>exact h)
theorem Eo{t:aP}(b:Bool)(hb:st.sc t=some (.bool b))(h:aM (lift P (bif b then x else y)) Q st):aM (lift P (.cond t x y)) Q st:=RX (x:=x) (y:=y) hb (by cases b<;>exact h)
theorem tM(h:aM (lift P z) Q st):aM (lift P (.seq .skip z)) Q st:=h
theorem Cj(h:Q (.exit id) st):aM (lift P (.seq (.exit id) z)) Q st:=h
theorem Sa(h:Q (.exit id) st):aM (lift P (.exit id)) Q st:=h
theorem Am(h:Q .ret st):aM (lift P (.seq .ret z)) Q st:=h
theorem oN(h:Q .ret st):aM (lift P .ret) Q st:=h
theorem xf(h:aM (lift P x) (mj id (lI (fun st=>aM (lift P z) Q st) Q)) st):aM (lift P (.seq (.block id x) z)) Q st:=h
theorem Sb(h:aM (lift P x) (mj id Q) st):aM (lift P (.block id x)) Q st:=h
theorem dv{c:fk}(I:Nat->List (Nat×AV)->List (Nat×Slot)->Prop){n:Nat}(h0:I n V S)(hr:∀n V L S,I n V S->aM (lift P c) (lI (fun st'=>∃m,m<n/\I m st'.V st'.S) Q) ⟨V,L,S⟩):aM (lift P (.loop c)) Q ⟨V,L,S⟩:=
 aqZ (fun n st=>I n st.V st.S) h0 fun n st h=>hr n st.V st.L st.S h
theorem XJ{s:Nat}(hs:st.freeze s=st')(h:aM (lift P (.seq x z)) Q st'):aM (lift P (.seq (.mi s x) z)) Q st:=by subst hs;exact h
theorem aeZ{off s:Nat}(hs:st.mh b off s e k=st')(h:aM (lift P (.seq x z)) Q st'):aM (lift P (.seq (.pC b off s e k x) z)) Q st:=by subst hs;exact h
theorem XK{off s:Nat}(hs:st.mh b off s e k=st')(h:aM (lift P x) Q st'):aM (lift P (.pC b off s e k x)) Q st:=by subst hs;exact h
theorem XL{s:Nat}(hs:st.freeze s=st')(h:aM (lift P x) Q st'):aM (lift P (.mi s x)) Q st:=by subst hs;exact h
theorem yI{n:Nat}(h:aX U (l.map (BO.ao P)) ((l.drop n).map (BO.ao P)) (fun st=>aM (lift P y) Q st) t false ⟨V,[],S⟩):aM (lift P (.seq (.tI l n t U) y)) Q ⟨V,L,S⟩:=by
 rw[List.map_drop] at h;exact h
theorem KL{n:Nat}(h:aX U (l.map (BO.ao P)) ((l.drop n).map (BO.ao P)) (fun st=>Q .normal st) t false ⟨V,[],S⟩):aM (lift P (.tI l n t U)) Q ⟨V,L,S⟩:=by
 rw[List.map_drop] at h;exact h
def Ep (U:List Nat)(st:St)(b:BO)(bp:Bool):Option St:=match cA b.op with
 |none=>none
 |some (mem,ev)=>if mem=true/\bp=true then none else match b.g with
  |none=>(ev st U).map fun x=>st.eM b.d x
  |some (t,want)=>match lH (st.arg (.t t)) want with
   |some true=>(ev st U).map fun x=>st.eM b.d x
   |some false=>some (st.eM b.d (.bD []))
   |none=>none
theorem qO{bp:Bool}{b:BO}(hi:l[i]? =some b)(hx:Ep U st b bp=some st')(h:aX U (l.map (BO.ao P)) tl K t bp st'):aX U (l.map (BO.ao P)) tl K (.take i t) bp st:=by
 obtain⟨d,g,op⟩:=b;unfold Ep at hx;dsimp only at hx;split at hx
 ·cases hx
 rename_i mem ev bT;split at hx
 ·cases hx
 rename_i hm;unfold aX;rw[fh,hi]
 show(match cA op with
  |none=>False
  |some (mem,ev)=>_)
 rw[bT];refine⟨fun h1=>by cases bp<;>simp_all,?_⟩
 cases g with
 |none=>
  dsimp only at hx;rw[bO] at hx;obtain⟨x,hx,rfl⟩:=hx;exact⟨x,hx,h⟩
 |some p=>
  obtain⟨tt,want⟩:=p;dsimp only at hx
  change (match lH (st.arg (.t tt)) want with
   |some true=>_
   |some false=>_
   |none=>False)
  split at hx
  ·rw[bO] at hx;obtain⟨x,hx,rfl⟩:=hx;exact⟨x,hx,h⟩
  ·simp only[aA] at hx;subst hx;exact h
  ·cases hx
theorem vm{l:List AO}{bp:Bool}(h1:aX U l tl K (.move i ti) bp st)(h2:aX U l tl K (.move j tj) bp st):aX U l tl K (.fork i j ti tj) bp st:=⟨h1,h2⟩
theorem Ao{l:List AO}{tk:OT}{bp:Bool}(h1:aX U l tl K (.move i ti) bp st)(h2:aX U l tl K (.move j tj) bp st)(h3:aX U l tl K (.move k tk) bp st):aX U l tl K (.wQ i j k ti tj tk) bp st:=⟨h1,h2,h3⟩
theorem vp{l:List AO}{bp:Bool}(h:bt none tl K st):aX U l tl K .nil bp st:=h
theorem KM{bp:Bool}{b:BO}(hi:l[i]? =some b)(hx:mO (some U) st b=some st')(h:aX U (l.map (BO.ao P)) tl K t true st'):aX U (l.map (BO.ao P)) tl K (.move i t) bp st:=by
 unfold aX;rw[fh,hi];exact aeS hx h
theorem afa{bp:Bool}{n:Nat}(hi:l[i]? =some ⟨d,none,.qM D n p q⟩)(hx:mO (some U) (pA D st) ⟨d,none,.store n p q⟩=some st')(h:aX U (l.map (BO.ao P)) tl K t true st'):aX U (l.map (BO.ao P)) tl K (.move i t) bp st:=by
 unfold aX;rw[fh,hi];exact aeX hx h
theorem Hh{bp:Bool}{x:AV}(hi:l[i]? =some ⟨d,none,.call f ys⟩)(ha:oL st ys=some ws)(hC:aU P f ws (fun y=>y=x))(h:aX U (l.map (BO.ao P)) tl K t true (st.eM d x)):
  aX U (l.map (BO.ao P)) tl K (.move i t) bp st:=by
 unfold aX;rw[fh,hi];exact⟨ws,_,ha,hC,fun y hy=>by rw[hy];exact h⟩
theorem kC{rv:List RV}{Q:AV->Prop}{xs:List AW}(h:Ak st rv=some xs)(hQ:Q (ed xs)):RZ rv Q .ret st:=⟨xs,h,hQ⟩
end
variable {a b:Int} {k:Nat}
@[simp] theorem aFE(x:Value):inl (.v x)=true:=rfl
@[simp] theorem aFF(es:List (List AC)):inl (.sl es)=true:=rfl
@[simp] theorem aFG(s g:Nat):inl (.own s g)=false:=rfl
@[simp] theorem aFH(st:St)(x:Value):st.fz (.v x)=some (.v x):=rfl
@[simp] theorem aFI(st:St)(es:List (List AC)):st.fz (.sl es)=some (.sl es):=rfl
@[simp] theorem aFJ(st:St)(s g:Nat):st.fz (.own s g)=match st.slot s with
  | .row _ k g' es=>if g=g'/\0<k then some (.sl es) else none
  |_=>none:=rfl
@[simp] theorem aFK(k:IntKind)(a b:Int):aW .eql (.int k a) (.int k b)=some (.bool (decide (a=b))):=by simp[aW]
@[simp] theorem aFL(k:IntKind)(a b:Int):aW .neq (.int k a) (.int k b)=some (.bool (decide (a≠b))):=by simp[aW]
@[simp] theorem aFM(k:IntKind)(a b:Int):aW .lss (.int k a) (.int k b)=some (.bool (decide (a<b))):=by simp[aW]
@[simp] theorem aFN(k:IntKind)(a b:Int):aW .leq (.int k a) (.int k b)=some (.bool (decide (a<=b))):=by simp[aW]
@[simp] theorem aFO(k:IntKind)(a b:Int):aW .gtr (.int k a) (.int k b)=some (.bool (decide (b<a))):=by simp[aW]
@[simp] theorem aFP(k:IntKind)(a b:Int):aW .geq (.int k a) (.int k b)=some (.bool (decide (b<=a))):=by simp[aW]
theorem wrap64{n:Int}(h1: -9223372036854775808<=n)(h2:n<=9223372036854775807):IntKind.i64.wrap n=n:=by
 simp only[IntKind.wrap,IntKind.signed,IntKind.bits];simp;omega
theorem oO(h1: -9223372036854775808<=a+b)(h2:a+b<=9223372036854775807):aW .add (.int .i64 a) (.int .i64 b)=some (.int .i64 (a+b)):=by simp[aW,wrap64 h1 h2]
theorem Ck(h1: -9223372036854775808<=a-b)(h2:a-b<=9223372036854775807):aW .sub (.int .i64 a) (.int .i64 b)=some (.int .i64 (a-b)):=by simp[aW,wrap64 h1 h2]
theorem arb(h1: -9223372036854775808<=a*b)(h2:a*b<=9223372036854775807):aW .mul (.int .i64 a) (.int .i64 b)=some (.int .i64 (a*b)):=by simp[aW,wrap64 h1 h2]
theorem afb(h0:b≠0)(h1: -9223372036854775808<=a.tdiv b)(h2:a.tdiv b<=9223372036854775807):aW .quo (.int .i64 a) (.int .i64 b)=some (.int .i64 (a.tdiv b)):=by simp[aW,wrap64 h1 h2,h0]
theorem NR(h0:b≠0):aW .rem (.int .i64 a) (.int .i64 b)=some (.int .i64 (a.tmod b)):=by simp[aW,h0]
theorem bN(h:k<=1000000000):aW .add (.int .i64 (k:Int)) (.int .i64 1)=some (.int .i64 ((k+1:Nat):Int)):=by
 rw[oO ab ab];rfl
@[simp ↓] theorem aFQ{α:Type}{f:α->List AC}{l:List α}:(∀row∈l.map f,row.length=k)↔∀x∈l,(f x).length=k:=List.forall_mem_map
@[simp] theorem aFR(g:Nat):(Slot.dead g).gen=g:=rfl
@[simp] theorem aFS(g:Nat)(cs:List AC):(Slot.box g cs).gen=g:=rfl
@[simp] theorem aFT(e k g:Nat)(es:List (List AC)):(Slot.row e k g es).gen=g:=rfl
attribute [simp] RM GK RL RN
attribute [simp] pA St.freeze mapA yB RI mf pz mO lH dA cA Ep St.get St.arg St.sc Gw aI qA St.put St.eM St.slot St.cn St.cells St.rows AW.cells AV.shift oL AW.inl qH nA Ak Ci St.qL St.jQ ed lI mj RZ qN aeR NA St.store Ed wZ Nz Eb Ru
def St.pF (D:List Nat)(st:St):AC->Option AC
 | .own s g=>if s∈D then some (.own s g) else st.fz (.own s g)
 | .cP s g=>if s∈D then some (.cP s g) else none
 | .part s g i=>if s∈D then some (.part s g i) else none
 | .cls f bZ=>if lG D (.cls f bZ)=true then some (.cls f bZ) else none
 | .v x=>some (.v x)
 | .sl es=>some (.sl es)
 | .fM f bZ=>some (.fM f bZ)
def St.kD (D:List Nat)(st:St):List AC->Option (List AC)
 |[]=>some []
 |x::l=>match st.pF D x,st.kD D l with
  |some y,some r=>some (y::r)
  |_,_=>none
def St.vq (D:List Nat)(st:St):AW->Option AW
 | .c x=>(st.pF D x).map .c
 | .agg cs=>(st.kD D cs).map .agg
def Ap (D:List Nat)(st:St):RV->Option AW
 | .t i=>match st.get i with
  |some (.w x)=>st.vq D x
  |_=>none
 | .cell p n=>match st.cells [] n (st.get p) with
  |some cs=>st.vq D (.agg cs)
  |none=>none
 | .cell1 p=>match st.cells [] 1 (st.get p) with
  |some [c]=>st.vq D (.c c)
  |_=>none
def vw (D:List Nat)(st:St):List RV->Option (List AW)
 |[]=>some []
 |r::l=>match Ap D st r,vw D st l with
  |some x,some q=>some (x::q)
  |_,_=>none
def eS (D:List Nat)(S:Nat->Slot)(s:Nat):Slot:=if s∈D then S s else .dead 0
section
variable {P:Program} {owns:gV} {ts:Trees} {N:Nat} {F M:Nat->Prop} {w0:kT} {w:World} {st:St} {G:Nat->Gh} {H:Nat->Value} {a:Act}
variable {D:List Nat} {K:St->Prop} {R:AV->(Nat->Slot)->Prop} {d:Option Nat} {f:FuncId} {ws:List AV} {x:AW} {ys:List aP}
theorem NT{S:Nat->Slot}(s b:Nat):bm (eS D S) G H s b↔s∈D/\bm S G H s b:=by
 unfold bm eS;by_cases h:s∈D<;>simp[h]
theorem XM{S:Nat->Slot}{b:Nat}(h:aV M (eS D S) G H b):aV M S G H b:=by
 rcases h with hm|⟨s,hl⟩
 ·exact .inl hm
 ·exact .inr ⟨s,((NT s b).1 hl).2⟩
theorem Rel.pF(h:Rel N F M w0 st G H a w){x y:AC}{u:Value}(hx:CR w (aV M st.slot G H) st.slot G H x u)(hf:st.pF D x=some y):CR w (aV M (eS D st.slot) G H) (eS D st.slot) G H y u/\lG D y=true:=by
 have qK:∀{z:AC} {v:Value},IR w (aV M st.slot G H) z v->IR w (aV M (eS D st.slot) G H) z v:=fun hz=>hz.mono ax (fun b _ hb=>XM hb) (fun _ _ _=>rfl)
 cases x with
 |v x=>simp only[St.pF,aA] at hf;subst hf;exact⟨qK hx,rfl⟩
 |sl es=>simp only[St.pF,aA] at hf;subst hf;exact⟨qK hx,rfl⟩
 |fM f bZ=>simp only[St.pF,aA] at hf;subst hf;exact⟨qK hx,rfl⟩
 |cP s g=>
  simp only[St.pF] at hf;split at hf
  case isFalse=>cases hf
  rename_i hs;simp only[aA] at hf;subst hf;obtain⟨h1,h2,h3⟩:=hx
  have e:eS D st.slot s=st.slot s:=by unfold eS;rw[aq hs]
  exact⟨⟨h1,by rw[e];exact h2,fun K he=>h3 K (by rw[<-e];exact he)⟩,by simpa [lG] using hs⟩
 |part s g i=>
  simp only[St.pF] at hf;split at hf
  case isFalse=>cases hf
  rename_i hs;simp only[aA] at hf;subst hf;obtain⟨h1,h2,h3⟩:=hx
  have e:eS D st.slot s=st.slot s:=by unfold eS;rw[aq hs]
  exact⟨⟨h1,by rw[e];exact h2,fun K he=>h3 K (by rw[<-e];exact he)⟩,by simpa [lG] using hs⟩
 |cls f bZ=>
  simp only[St.pF] at hf;split at hf
  case isFalse=>cases hf
  rename_i hs;simp only[aA] at hf;subst hf;obtain⟨ps,h1,h2,h3⟩:=hx;refine⟨⟨ps,h1,h2,fun i q p e1 e2=> ?_⟩,hs⟩
  have hq:q.1∈D:=by
   have h4:bZ.all (fun q=>D.contains q.1)=true:=hs;have:=fq.1 h4 q (eE e1);simpa using this
  have e:eS D st.slot q.1=st.slot q.1:=by unfold eS;rw[aq hq]
  obtain⟨h4,h5⟩:=h3 i q p e1 e2;exact⟨by rw[e];exact h4,fun cs he=>h5 cs (by rw[<-e];exact he)⟩
 |own s g=>
  simp only[St.pF] at hf;split at hf
  ·rename_i hs;simp only[aA] at hf;subst hf;obtain⟨h1,h2,h3⟩:=hx
   have e:eS D st.slot s=st.slot s:=by unfold eS;rw[aq hs]
   exact⟨⟨h1,by rw[e];exact h2,fun e' k es he=>h3 e' k es (by rw[<-e];exact he)⟩,by simpa [lG] using hs⟩
  ·rename_i hs;simp only[St.fz] at hf;split at hf
   case h_2=>cases hf
   rename_i e k g' es cq;split at hf
   case isFalse=>cases hf
   rename_i hg;obtain⟨rfl,aY⟩:=hg;simp only[aA] at hf;subst hf;refine⟨?_,rfl⟩;obtain⟨_,_,hH⟩:=hx;have hu:=hH e k es cq;subst hu;obtain⟨hn,xs,how,lF⟩:=h.rw s e k g es cq;have hl:=how.1
   rcases how.2 with⟨e1,e2⟩|⟨gg,cap,cur,e1,_,Rv,nW,Cc,_,_⟩
   ·have h0:es=[]:=yh e2;subst h0;rw[e1];exact IR.sl 0 [] none 0 (fun _ _=>undef) ax ai (by intro i row h;simp at h) (by intro i row j x h;simp at h) (by intro i row j h;simp at h)
   ·rw[e1];have hcell:=how.cells (g:=gg) (by rw[e1];rfl)
    have aS:(H s).ownBlock=some gg:=by rw[e1];rfl
    have Xi:¬aV M (eS D st.slot) G H gg:=fun hh=>by
     rcases hh with hm|⟨s',ij⟩
     ·exact(hn gg aS).2 hm
     ·obtain⟨d1,l1⟩:=(NT s' gg).1 ij;have:=h.dj s' s gg l1 (.inr (.inl ⟨e,k,g,es,cq,aS⟩));subst this;exact hs d1
    exact ND rfl (lF.map fun x u hx=>qK hx) hl Xi nW (by simp only[maxLen] at Cc;omega) (fun j u hj=>by
     have:=hcell j u hj
     rwa[Addr.add_mid,fu] at this)
theorem Rel.kD(h:Rel N F M w0 st G H a w):∀{cs r:List AC} {us:List Value},cE w (aV M st.slot G H) st.slot G H cs us->st.kD D cs=some r->cE w (aV M (eS D st.slot) G H) (eS D st.slot) G H r us/\r.all (lG D)=true
 |[],r,us,hc,hr=>by
  simp only[St.kD,aA] at hr;subst hr;exact⟨⟨hc.1,fun j x u e=>by simp at e⟩,rfl⟩
 |x::cs,r,us,hc,hr=>by
  unfold St.kD at hr;split at hr
  case h_2=>cases hr
  rename_i y q h1 h2;simp only[aA] at hr;subst hr
  cases us with
  |nil=>have:=hc.1;simp at this
  |cons u us=>
   have hc':cE w (aV M st.slot G H) st.slot G H cs us:=⟨by have:=hc.1;simpa using this,fun j x u e1 e2=>hc.2 (j+1) x u (by simpa using e1) (by simpa using e2)⟩
   obtain⟨g2,g1⟩:=Rel.kD h hc' h2;obtain⟨g3,g4⟩:=h.pF (hc.2 0 x u rfl rfl) h1;refine⟨⟨by have:=g2.1;simp[this],fun j z v e1 e2=> ?_⟩,by simp[g4,g1]⟩
   cases j with
   |zero=>
    simp at e1 e2;subst e1;subst e2;exact g3
   |succ j=>exact g2.2 j z v (by simpa using e1) (by simpa using e2)
theorem Rel.vq(h:Rel N F M w0 st G H a w){y:AW}{v:Value}(hx:WR w (aV M st.slot G H) st.slot G H x v)(hf:st.vq D x=some y):WR w (aV M (eS D st.slot) G H) (eS D st.slot) G H y v/\Ae D y=true:=by
 cases x with
 |c x=>
  simp only[St.vq,bO] at hf;obtain⟨z,hz,rfl⟩:=hf;obtain⟨h1,h2⟩:=h.pF hx hz;exact⟨h1,by simp[Ae,AW.cells,h2]⟩
 |agg cs=>
  simp only[St.vq,bO] at hf;obtain⟨z,hz,rfl⟩:=hf;obtain⟨arr,e,hc⟩:=hx;obtain⟨g1,g2⟩:=h.kD hc hz;exact⟨⟨arr,e,g1⟩,by simpa [Ae,AW.cells] using g2⟩
theorem Rel.rvM(h:Rel N F M w0 st G H a w){r:ResultVar}{q:RV}(hq:GZ P r=some q)(hr:Ap D st q=some x):∃v,(xd a.tmps r).run P w=.ok v w/\WR w (aV M (eS D st.slot) G H) (eS D st.slot) G H x v/\Ae D x=true:=by
 cases r with
 |tmp t=>
  simp only[GZ,aA] at hq;subst hq;simp only[Ap] at hr;split at hr
  case h_2=>cases hr
  rename_i y hy;exact⟨_,rfl,h.vq (h.tm t _ hy) hr⟩
 |cell p ty=>
  simp only[GZ] at hq;split at hq
  case h_2=>cases hq
  rename_i n d hn hd;split at hq
  ·rename_i bl;simp only[aA] at hq;subst hq;simp only[Ap] at hr;split at hr
   case h_2=>cases hr
   rename_i cs hc
   cases hp:st.get p with
   |none=>rw[hp] at hc;simp at hc
   |some pv=>
    rw[hp] at hc;obtain⟨b,o,us,e1,hlt,_,yF,hcs,hl⟩:=h.cells (h.tm p pv hp) hc;refine⟨.agg us.toArray,?_,h.vq (x:=.agg cs) ⟨us,rfl,hcs⟩ hr⟩;simp only[xd,e1,asAddr,oZ,tw,rP];exact run_loadVar_mid w b o ty us d yF hd bl (by rw[hl];exact hn)
  ·rename_i bl;simp only[aA] at hq;subst hq;simp only[Ap] at hr;split at hr
   case h_2=>cases hr
   rename_i c hc
   cases hp:st.get p with
   |none=>rw[hp] at hc;simp at hc
   |some pv=>
    rw[hp] at hc;obtain⟨b,o,us,e1,hlt,_,yF,hcs,hl⟩:=h.cells (h.tm p pv hp) hc
    obtain⟨u,rfl⟩:∃u,us=[u]:=by
     match us,hl with
     |[u],_=>exact⟨u,rfl⟩
    refine⟨u,?_,h.vq (x:=.c c) (hcs.2 0 c u rfl rfl) hr⟩;have hcell:=yF 0 u rfl;rw[qm] at hcell
    have yy:(isAgg ty).run P w=.ok false w:=by
     unfold isAgg;rw[oZ,lu hd]
     cases d<;>first|rfl|(exact absurd rfl bl)
    simp[xd,e1,asAddr,loadVar,yy,hcell]
theorem Rel.afc(h:Rel N F M w0 st G H a w):∀{rs:List ResultVar} {qs:List RV} {xs:List AW},vh P rs=some qs->vw D st qs=some xs->∃vs:List Value,(rs.mapM (xd a.tmps)).run P w=.ok vs w/\vs.length=xs.length/\
  ∀(j:Nat) (x:AW) (v:Value),xs[j]? =some x->vs[j]? =some v->WR w (aV M (eS D st.slot) G H) (eS D st.slot) G H x v/\Ae D x=true
 |[],qs,xs,hq,hr=>by
  simp only[vh,aA] at hq;subst hq;simp only[vw,aA] at hr;subst hr;exact⟨[],ai,rfl,fun j x v e=>by simp at e⟩
 |r::rs,qs,xs,hq,hr=>by
  unfold vh at hq;split at hq
  case h_2=>cases hq
  rename_i q l g1 g2;simp only[aA] at hq;subst hq;unfold vw at hr;split at hr
  case h_2=>cases hr
  rename_i x l' h1 h2;simp only[aA] at hr;subst hr;obtain⟨v,e1,e2⟩:=h.rvM g1 h1;obtain⟨vs,e3,e4,e5⟩:=Rel.afc h g2 h2;refine⟨v::vs,by simp[Gf,e1,e3],by simp[e4],fun j y u k1 k2=> ?_⟩
  cases j with
  |zero=>simp at k1 k2;subst k1;subst k2;exact e2
  |succ j=>exact e5 j y u (by simpa using k1) (by simpa using k2)
def Sc (D:List Nat)(rv:List RV)(Q:AV->(Nat->Slot)->Prop):gM->St->Prop
 | .exit _,_=>False
 |_,st=>∃xs,vw D st rv=some xs/\(∀s∈D,fy D (st.slot s)=true)/\Q (ed xs) (eS D st.slot)
def VM:List AV->Nat->List Nat->List (Nat×AV)
 |[],_,vs=>uV vs
 |a::r,k,vs=>(k,a)::VM r (k+1) vs
theorem afd:∀{args:List AV} {k:Nat} {vs:List Nat} {i:Nat} {x:AV},aI (VM args k vs) i=some x->x=.u\/∃j,i=k+j/\args[j]? =some x
 |[],k,vs,i,x,h=> .inl (XF h)
 |a::r,k,vs,i,x,h=>by
  simp only[VM,aI] at h;split at h
  ·rename_i hk;simp only[aA] at h;exact .inr ⟨0,hk.symm,by simp[h]⟩
  ·rcases afd h with h1|⟨j,h1,h2⟩
   ·exact .inl h1
   ·exact .inr ⟨j+1,ab,by simpa using h2⟩
theorem afe:∀(ss:List Nat) (s:Nat) (x:Slot),aI (S0 ss) s=some x->x=.dead 0
 |[],s,x,h=>by simp[S0,aI] at h
 |v::vs,s,x,h=>by
  simp only[S0,aI] at h;split at h
  ·simp only[aA] at h;exact h.symm
  ·exact afe vs s x h
theorem aff {α:Type}:∀(l m:List (Nat×α)) (s:Nat),aI (l++m) s=match aI l s with
  |some x=>some x
  |none=>aI m s
 |[],m,s=>rfl
 |(i,x)::l,m,s=>by
  simp only[List.cons_append,aI,aff l m s];split<;>rfl
theorem XN {α:Type}:∀(T:List (Nat×α)) (s:Nat),aI T s=none↔s∉T.map (·.1)
 |[],s=>by simp[aI]
 |(i,x)::T,s=>by
  simp only[aI,dF,cz,not_or];by_cases h:i=s
  ·subst h;simp
  ·rw[af h,XN T s];exact⟨fun h1=>⟨fun e=>h e.symm,h1⟩,fun h1=>h1.2⟩
theorem afg(hE:∀p∈owns.eqs,sB P p.1 p.2){fn:Func}{c:Code}{b:fk}(hf:P.funcs[f]? =some fn)(hb:fn.body=some c)(ht:gW P owns fn.ntmps ts c=some b)(rv:List RV)(pE:vh P fn.results.toList=some rv)(args:List AV)(Ce:Nat.ble args.length fn.ntmps=true)(T:List (Nat×Slot))(vs ss:List Nat){Q:AV->(Nat->Slot)->Prop}
  (h:aM (lift P b) (Sc (T.map (·.1)) rv Q) ⟨VM args 0 vs,[],T++S0 ss⟩):iB P f args T Q:=by
 intro M w G H us cq hM hlen dz;have aFU:args.length<=fn.ntmps:=tr Ce;refine calls_of_wp hf hb ?_
 have jP:(St.mk (VM args 0 vs) [] (T++S0 ss)).slot=iz T:=funext fun s=>by
  unfold St.slot iz;dsimp only;rw[aff]
  cases h1:aI T s with
  |some x=>rfl
  |none=>
   dsimp only
   cases h2:aI (S0 ss) s with
   |none=>rfl
   |some x=>rw[afe ss s x h2];rfl
 have hlt:∀s b,bm (iz T) G H s b->b<w.heap.size:=fun s b hl=>by
  rcases hl with⟨g,cs,h1,rfl⟩|⟨e,k,g,es,h1,h2⟩|⟨g,K,h1,h2⟩
  ·obtain⟨_,arr,h3,_⟩:=cq.bx s g cs h1;exact h3.lt
  ·obtain⟨_,xs,h3,_⟩:=cq.rw s e k g es h1;exact(h3.lt b h2).2
  ·exact K.lt (cq.ob s g K h1).2 b h2
 have hR:Rel fn.ntmps (fun b=>b<w.heap.size/\∀s,¬bm (iz T) G H s b) M ⟨w,iz T,G,H⟩ ⟨VM args 0 vs,[],T++S0 ss⟩ G H { tmps:=us.toArray++Array.replicate (fn.ntmps-us.toArray.size) undef,defers:=[] } w:=by
  refine⟨by simp;omega,rfl,⟨rfl,rfl,rfl,cK _,fun _ _=>rfl⟩,⟨fun s=>(by rw[jP];exact cK _),fun s e k g es hs _=>(by rw[jP] at hs;exact⟨⟨es,hs⟩,rfl⟩),fun s g cs hs _=>(by rw[jP] at hs;exact⟨⟨cs,hs⟩,rfl⟩),fun s g K hs _=>(by rw[jP] at hs;exact⟨⟨K,hs⟩,rfl,rfl⟩)⟩,⟨fun b hb=>hb.elim (·.1) (hM.1 b),hM.2⟩,fun i x hx=> ?_,
   fun s g cs hs=> ?_,fun s e k g es hs=> ?_,fun s g K hs=> ?_,by rw[jP];exact cq.dj⟩
  ·have su:aI (VM args 0 vs) i=some x:=by
    unfold St.get at hx;dsimp only at hx;split at hx
    ·rename_i v hv;rw[hv];exact hx
    ·simp[aI] at hx
   rcases afd su with rfl|⟨j,hj,hy⟩
   ·trivial
   ·rw[fu] at hj;subst hj;have hi:=(bK.1 hy).1;have hv:us[i]? =some (us[i]' ab):=cw ab;have hw:=dz i x _ hy hv
    have qF:(us.toArray++Array.replicate (fn.ntmps-us.toArray.size) undef).getD i undef=us[i]' ab:=by
     simp[MT,Array.getElem?_append,show i<us.length by omega]
    rw[qF,jP];exact hw
  ·rw[jP] at hs⊢;obtain⟨g1,arr,g2,g3⟩:=cq.bx s g cs hs;exact⟨fun hh=>hh.2 s (.inl ⟨g,cs,hs,rfl⟩),g1,arr,g2,g3⟩
  ·rw[jP] at hs⊢;obtain⟨g1,xs,g2,g3⟩:=cq.rw s e k g es hs;exact⟨fun b hb=>⟨fun hh=>hh.2 s (.inr (.inl ⟨e,k,g,es,hs,hb⟩)),g1 b hb⟩,xs,g2,g3⟩
  ·rw[jP] at hs⊢;obtain⟨g1,g2⟩:=cq.ob s g K hs;exact⟨fun b hb=>⟨fun hh=>hh.2 s (.inr (.inr ⟨g,K,hs,hb⟩)),g1 b hb⟩,g2⟩
 refine aeC (aeO hE ht) hR h fun e st' G' H' a' w' hq bM=> ?_
 have arc:∀s,aI T s=none->s∉T.map (·.1):=fun s hs=>(XN T s).1 hs
 have fin:(∃xs,vw (T.map (·.1)) st' rv=some xs/\(∀s∈T.map (·.1),fy (T.map (·.1)) (st'.slot s)=true)/\Q (ed xs) (eS (T.map (·.1)) st'.slot))->
   a'.defers=[]/\∃v,(results fn a'.tmps).run P w'=.ok v w'/\∃v' r S' G' H',Ending.returned v=.returned v'/\Q r S'/\VR w' (aV M S' G' H') S' G' H' r v'/\NG M S' G' H' w'/\Rq ⟨w,iz T,G,H⟩ S' G' H'/\
   Fr (fun b=>b<w.heap.size/\∀s,¬bm (iz T) G H s b) w w'/\(∀s b,bm S' G' H' s b->(∃s0,bm (iz T) G H s0 b)\/w.heap.size<=b)/\∀s,aI T s=none->S' s=.dead 0:=by
  rintro⟨xs,cg,oM,hQ⟩;obtain⟨us',e1,e2,e3⟩:=bM.afc pE cg;have hrun:=aeE (fn:=fn) e1
  have qK:∀{z:AC} {v:Value},IR w' (aV M st'.slot G' H') z v->IR w' (aV M (eS (T.map (·.1)) st'.slot) G' H') z v:=fun hz=>hz.mono ax (fun b _ hb=>XM hb) (fun _ _ _=>rfl)
  have oP:∀s,s∈T.map (·.1)->eS (T.map (·.1)) st'.slot s=st'.slot s:=fun s hs=>by unfold eS;rw[aq hs]
  refine⟨bM.df,_,hrun,_,ed xs,eS (T.map (·.1)) st'.slot,G',H',rfl,hQ,?_,⟨fun s g cs hs=> ?_,fun s e k g es hs=> ?_,fun s g K hs=> ?_,fun s s' b h1 h2=>bM.dj s s' b ((NT s b).1 h1).2 ((NT s' b).1 h2).2⟩,⟨fun s=> ?_,fun s e k g es hs hg=> ?_,fun s g cs hs hg=> ?_,fun s g K hs hg=> ?_⟩,bM.fr,fun s b hl=> ?_,fun s hs=> ?_⟩
  ·match xs,us',e2,e3 with
   |[x],[u],_,e3=>exact(e3 0 x u rfl rfl).1
   |[],[],_,e3=>exact⟨[],rfl,rfl,fun j x u e=>by simp at e⟩
   |x::y::r,u::v::q,e2,e3=>
    have hne:¬(u::v::q).toArray.size=1:=ai;rw[dif_neg hne];exact⟨u::v::q,rfl,e2,fun j x u h1 h2=>(e3 j x u h1 h2).1⟩
  ·by_cases hd:s∈T.map (·.1)
   ·rw[oP s hd] at hs;obtain⟨_,g2,arr,g3,g4⟩:=bM.bx s g cs hs;have hc:=oM s hd;rw[hs] at hc;refine⟨g2,arr,g3,g4.1,fun j x u h1 h2=> ?_⟩;have hx:=g4.2 j x u h1 h2;have yJ:=fq.1 hc x (eE h1)
    cases x with
    |v x=>exact qK hx
    |sl es=>exact qK hx
    |fM f bZ=>exact qK hx
    |cP s' g'=>
     have eo:s'∈T.map (·.1):=by simpa [lG] using yJ
     obtain⟨q1,q2,q3⟩:=hx;exact⟨q1,by rw[oP s' eo];exact q2,fun K he=>by rw[oP s' eo] at he;exact q3 K he⟩
    |part s' g' i'=>
     have eo:s'∈T.map (·.1):=by simpa [lG] using yJ
     obtain⟨q1,q2,q3⟩:=hx;exact⟨q1,by rw[oP s' eo];exact q2,fun K he=>by rw[oP s' eo] at he;exact q3 K he⟩
    |cls f bZ=>
     obtain⟨ps,q1,q2,q3⟩:=hx;refine⟨ps,q1,q2,fun i q p e1 e2=> ?_⟩
     have hq:q.1∈T.map (·.1):=by
      have h4:bZ.all (fun q=>(T.map (·.1)).contains q.1)=true:=yJ;have:=fq.1 h4 q (eE e1);simpa using this
     obtain⟨q4,q5⟩:=q3 i q p e1 e2;exact⟨by rw[oP _ hq];exact q4,fun cs he=>by rw[oP _ hq] at he;exact q5 cs he⟩
    |own s' g'=>
     have eo:s'∈T.map (·.1):=by simpa [lG] using yJ
     obtain⟨q1,q2,q3⟩:=hx;exact⟨q1,by rw[oP s' eo];exact q2,fun e k es he=>by rw[oP s' eo] at he;exact q3 e k es he⟩
   ·unfold eS at hs;rw[af hd] at hs;cases hs
  ·by_cases hd:s∈T.map (·.1)
   ·rw[oP s hd] at hs;obtain⟨g1,ys,g3,g4⟩:=bM.rw s e k g es hs;exact⟨fun b hb=>(g1 b hb).2,ys,g3,g4.map fun x u hx=>qK hx⟩
   ·unfold eS at hs;rw[af hd] at hs;cases hs
  ·by_cases hd:s∈T.map (·.1)
   ·rw[oP s hd] at hs;obtain⟨g1,g2⟩:=bM.ob s g K hs;exact⟨fun b hb=>(g1 b hb).2,K.mono g2 ax (fun b _ hb=>XM hb) (fun _ _ _=>rfl)⟩
   ·unfold eS at hs;rw[af hd] at hs;cases hs
  ·by_cases hd:s∈T.map (·.1)
   ·rw[oP s hd];exact bM.hs.gen s
   ·have hn:aI T s=none:=(XN T s).2 hd
    show(iz T s).gen<=_
    unfold iz;rw[hn];exact BM _
  ·by_cases hd:s∈T.map (·.1)
   ·rw[oP s hd] at hs;exact bM.hs.row s e k g es hs hg
   ·unfold eS at hs;rw[af hd] at hs;cases hs
  ·by_cases hd:s∈T.map (·.1)
   ·rw[oP s hd] at hs;exact bM.hs.box s g cs hs hg
   ·unfold eS at hs;rw[af hd] at hs;cases hs
  ·by_cases hd:s∈T.map (·.1)
   ·rw[oP s hd] at hs;exact bM.hs.obj s g K hs hg
   ·unfold eS at hs;rw[af hd] at hs;cases hs
  ·have Cl:=(bM.qC ((NT s b).1 hl).2).2.1;by_cases hb:b<w.heap.size
   ·left
    exact JX fun hne=>Cl ⟨hb,fun s0 tN=>hne ⟨s0,tN⟩⟩
   ·right;omega
  ·unfold eS;rw[af (arc s hs)]
 cases e with
 |normal=>exact fin hq
 |exit id=>exact hq.elim
 |ret=>exact fin hq
theorem ard{U:Option (List Nat)}{r:List BO}(ha:mM st ys=some ws)(hc:ws.all (iC D)=true)(hD:∀s∈D,(aI st.S s).isSome=true/\fy D (st.slot s)=true)(hU:∀s∈D,yx U s)(hC:iB P f ws (gL st D) R)
  (hr:∀x S',R x S'->(iC D x=true/\∀s∈D,fy D (S' s)=true)/\bt U (r.map (BO.ao P)) K ((mN D S' st).eM d x)):bt U ((⟨d,none,.nB f ys D⟩::r:List BO).map (BO.ao P)) K st:=⟨ws,R,ha,hc,hD,hU,hC,fun x S' hx=>hr x S' hx⟩
theorem arf{U:List Nat}{l:List BO}{tl:List AO}{i:Nat}{t:OT}{bp:Bool}(hi:l[i]? =some ⟨d,none,.nB f ys D⟩)(ha:mM st ys=some ws)(hc:ws.all (iC D)=true)
  (hD:∀s∈D,(aI st.S s).isSome=true/\fy D (st.slot s)=true) (hU:∀s∈D,s∈U) (hC:iB P f ws (gL st D) R) (h:∀x S',R x S'->(iC D x=true/\∀s∈D,fy D (S' s)=true)/\aX U (l.map (BO.ao P)) tl K t true ((mN D S' st).eM d x)):
  aX U (l.map (BO.ao P)) tl K (.move i t) bp st:=by
 unfold aX;rw[fh,hi];exact⟨ws,R,ha,hc,hD,hU,hC,fun x S' hx=>h x S' hx⟩
end
section
variable {P:Program} {Q:gM->St->Prop} {V L:List (Nat×AV)} {S:List (Nat×Slot)} {st:St} {x y z:fk}
variable {t:aP}
theorem afh(hb:st.sc t=some (.bool true))(h:aM (lift P (.seq x z)) Q st):aM (lift P (.seq (.cond t x y) z)) Q st:=lJ true hb h
theorem afi(hb:st.sc t=some (.bool false))(h:aM (lift P (.seq y z)) Q st):aM (lift P (.seq (.cond t x y) z)) Q st:=lJ false hb h
theorem afj(hb:st.sc t=some (.bool true))(h:aM (lift P x) Q st):aM (lift P (.cond t x y)) Q st:=Eo true hb h
theorem afk(hb:st.sc t=some (.bool false))(h:aM (lift P y) Q st):aM (lift P (.cond t x y)) Q st:=Eo false hb h
theorem Sd(h:Q .normal st):aM (lift P .skip) Q st:=h
theorem afl{U:List Nat}{l:List AO}{l2:List BO}{n:Nat}{K:St->Prop}{bp:Bool}{r:List BO}(hr:l2.drop n=r)(h:bt none (r.map (BO.ao P)) K st):aX U l ((l2.drop n).map (BO.ao P)) K .nil bp st:=by subst hr;exact h
end
@[simp] theorem aFV (b:Bool):Ea .not (.bool b)=some (.bool !b):=rfl
theorem afm {a:Int}(h1: -9223372036854775807<=a)(h2:a<=9223372036854775807):Ea .neg (.int .i64 a)=some (.int .i64 (-a)):=by simp[Ea,wrap64 (n:= -a) ab ab]
@[simp] theorem aFW (k:IntKind)(a b:Int):Gx true (.int k a) (.int k b)=some (.int k (max a b)):=by simp[Gx]
@[simp] theorem aFX (k:IntKind)(a b:Int):Gx false (.int k a) (.int k b)=some (.int k (min a b)):=by simp[Gx]
@[simp] theorem arh (a b:ByteArray):aW .eql (.string a) (.string b)=some (.bool (a.toList==b.toList)):=rfl
theorem afn {a b:List UInt8}(h:a.length+b.length<=1000000000000):aW .add (.string ⟨⟨a⟩⟩) (.string ⟨⟨b⟩⟩)=some (.string ⟨⟨a++b⟩⟩):=by
 have h1:¬(((⟨⟨a⟩⟩:ByteArray).size+(⟨⟨b⟩⟩:ByteArray).size:Nat):Int)>IntKind.i64.max:=by
  show¬((a.length+b.length:Nat):Int)>9223372036854775807
  omega
 show(if _ then none else _)=_
 rw[af h1];congr 2<;>(apply ByteArray.ext;simp)
@[simp] theorem ari (a b:ByteArray):aW .neq (.string a) (.string b)=some (.bool (!(a.toList==b.toList))):=rfl
def ml:List (Nat×Slot)->St->St
 |[],st=>st
 |(s,x)::l,st=>ml l (st.cn s x)
theorem XO:∀(l:List (Nat×Slot)) (S:List (Nat×Slot)) (D:List Nat) (S':Nat->Slot),(∀p∈l,S' p.1=p.2)->(∀s,s∈l.map (·.1)↔s∈D)->
  (S.map fun p=>if D.contains p.1 then(p.1,S' p.1) else p)=l.foldl (fun S p=>qA S p.1 p.2) S:=by
 intro l
 induction l with
 |nil=>
  intro S D S' _ hD
  have:∀s,D.contains s=false:=fun s=>by have:=hD s;simpa using this
  simp only[List.foldl_nil]
  conv=>rhs;rw[<-List.map_id S]
  apply Kb;intro p _;rw[this p.1];simp
 |cons q l ih=>
  intro S D S' h hD;obtain⟨s,x⟩:=q;have hx:S' s=x:=h (s,x) ai
  have iK:∀S:List (Nat×Slot),qA S s x=S.map fun p=>if p.1=s then(p.1,x) else p:=fun S=>by
   induction S with
   |nil=>rfl
   |cons p S ihS=>
    obtain⟨i,y⟩:=p;simp only[qA,dF,ihS];split<;>rfl
  simp only[zN];rw[<-ih (qA S s x) (l.map (·.1)) S' (fun p hp=>h p (by simp[hp])) (fun _=>Iff.rfl),iK,List.map_map];apply Kb;intro p _;have hd:=hD p.1;simp only[dF,cz] at hd;by_cases lK:p.1=s
  ·have:p.1∈D:=hd.1 (.inl lK);obtain⟨i,y⟩:=p;dsimp only at lK this;subst lK
   have hc:D.contains i=true:=by simpa using this
   simp only[Function.comp,nk,hc,hx];split<;>rfl
  ·by_cases hl:p.1∈l.map (·.1)
   ·have:p.1∈D:=hd.1 (.inr hl);simp[Function.comp,lK,this,hl]
   ·have:¬p.1∈D:=fun hh=>by rcases hd.2 hh with h|h;exact lK h;exact hl h
    simp[Function.comp,lK,this,hl]
theorem NU:∀(l:List (Nat×Slot)) (st:St),ml l st=⟨st.V,st.L,l.foldl (fun S p=>qA S p.1 p.2) st.S⟩
 |[],_=>rfl
 |(s,x)::l,st=>by
  unfold ml;rw[NU l];rfl
section
variable {P:Program}
variable {D:List Nat} {K:St->Prop} {Ys:List (Nat×Slot)} {d:Option Nat} {f:FuncId} {st st':St} {ws:List AV} {x0:AV} {ys:List aP}
theorem XP{U:Option (List Nat)}{r:List BO}(ha:mM st ys=some ws)(hc:ws.all (iC D)=true)(hD:∀s∈D,(aI st.S s).isSome=true/\fy D (st.slot s)=true)(hU:∀s∈D,qN U s=true)
  (hC:iB P f ws (gL st D) (fun x S'=>x=x0/\∀p∈Ys,S' p.1=p.2)) (hY:Ys.map (·.1)=D) (hx:iC D x0=true) (dB:∀p∈Ys,fy D p.2=true) (hst:(ml Ys st).eM d x0=st') (h:bt U (r.map (BO.ao P)) K st'):
  bt U ((⟨d,none,.nB f ys D⟩::r:List BO).map (BO.ao P)) K st:=by
 refine ard ha hc hD (fun s hs=>RU (hU s hs)) hC ?_;rintro x S' ⟨rfl,hS⟩;refine⟨⟨hx,fun s hs=> ?_⟩,?_⟩
 ·rw[<-hY] at hs;obtain⟨p,hp,rfl⟩:=dm.1 hs;rw[hS p hp];exact dB p hp
 ·have:mN D S' st=ml Ys st:=by
   rw[NU];unfold mN;rw[XO Ys st.S D S' hS (fun s=>by rw[hY])]
  rw[this,hst];exact h
theorem afo{U:List Nat}{l:List BO}{tl:List AO}{i:Nat}{t:OT}{bp:Bool}(hi:l[i]? =some ⟨d,none,.nB f ys D⟩)(ha:mM st ys=some ws)(hc:ws.all (iC D)=true)
  (hD:∀s∈D,(aI st.S s).isSome=true/\fy D (st.slot s)=true) (hU:∀s∈D,s∈U) (hC:iB P f ws (gL st D) (fun x S'=>x=x0/\∀p∈Ys,S' p.1=p.2)) (hY:Ys.map (·.1)=D) (hx:iC D x0=true) (dB:∀p∈Ys,fy D p.2=true) (hst:(ml Ys st).eM d x0=st') (h:aX U (l.map (BO.ao P)) tl K t true st'):
  aX U (l.map (BO.ao P)) tl K (.move i t) bp st:=by
 refine arf hi ha hc hD hU hC ?_;rintro x S' ⟨rfl,hS⟩;refine⟨⟨hx,fun s hs=> ?_⟩,?_⟩
 ·rw[<-hY] at hs;obtain⟨p,hp,rfl⟩:=dm.1 hs;rw[hS p hp];exact dB p hp
 ·have:mN D S' st=ml Ys st:=by
   rw[NU];unfold mN;rw[XO Ys st.S D S' hS (fun s=>by rw[hY])]
  rw[this,hst];exact h
theorem arj{rv:List RV}{Q:AV->(Nat->Slot)->Prop}{xs:List AW}(h:vw D st rv=some xs)(hc:∀s∈D,fy D (st.slot s)=true)(hQ:Q (ed xs) (eS D st.slot)):Sc D rv Q .ret st:=⟨xs,h,hc,hQ⟩
end
@[simp] theorem aFY (D:List Nat)(g:Nat):fy D (.dead g)=true:=rfl
@[simp] theorem aFZ (D:List Nat)(e k g:Nat)(es:List (List AC)):fy D (.row e k g es)=true:=rfl
@[simp] theorem aGa (D:List Nat)(g:Nat)(cs:List AC):fy D (.box g cs)=cs.all (lG D):=rfl
@[simp] theorem aGb {α β:Type}(f:α->β)(l:List α):(l.map f).take l.length=l.map f:=by rw[nh ai]
attribute [simp] mM iC Ae lG gL ml VM vw Ap eS iz St.vq St.pF St.kD
def Sg (P:Program)(a:gV)(ops:Array Oper)(o:Oper):BO:=⟨o.dst,(match o.guard with
 |none=>none
 |some (j,want)=>match(ops[j]?).bind (·.dst) with
  |some t=>some (t,want)
  |none=>none),match RR P a o with
 |some x=>x
 |none=> .mv (.t 0)⟩
def NV (P:Program)(a:gV)(ops:Array Oper):List Oper->List BO
 |[]=>[]
 |o::l=>Sg P a ops o::NV P a ops l
def iW (P:Program)(a:gV)(ts:Trees):Code->fk
 | .skip=> .skip
 | .ret=> .ret
 | .exit id=> .exit id
 | .seq x y=> .seq (iW P a ts x) (iW P a ts y)
 | .cond t x y=> .cond (match ee t with |some t=>t|none=> .t 0) (iW P a ts x) (iW P a ts y)
 | .block id c=> .block id (iW P a ts c)
 | .loop c=> .loop (iW P a ts c)
 | .region id ops d=>NN ((aI a.mi id).getD []) (NP ((aI a.Xo id).getD []) (match d with
  |false=> .region (NV P a ops ops.toList)
  |true=>match XB ts id with
   |some (n,t,U)=> .tI (NV P a ops ops.toList) n t U
   |none=> .skip))
 |_=> .skip
section
variable {P:Program} {a:gV} {N:Nat} {ts:Trees} {ops:Array Oper}
theorem ark {o:Oper}{b:BO}(h:NQ P a N ops o=some b):Sg P a ops o=b:=by
 unfold NQ at h;split at h
 ·cases h
 rename_i op hop;split at h
 case isFalse=>cases h
 split at h
 ·rename_i hg;simp only[aA] at h;subst h;simp[Sg,hg,hop]
 ·rename_i j want hg;split at h
  ·rename_i t ht;simp only[aA] at h;subst h;simp[Sg,hg,hop,ht]
  ·cases h
theorem XQ:∀{os:List Oper} {l:List BO},El P a N ops os=some l->NV P a ops os=l
 |[],l,h=>by
  simp only[El,aA] at h;subst h;rfl
 |o::os,l,h=>by
  unfold El at h;split at h
  ·rename_i b q h1 h2;simp only[aA] at h;subst h;simp[NV,ark h1,XQ h2]
  ·cases h
theorem arl:∀{c:Code} {b:fk},gW P a N ts c=some b->iW P a ts c=b:=by
 intro c
 induction c with
 |skip=>intro b h;simp only[gW,aA] at h;subst h;rfl
 |ret=>intro b h;simp only[gW,aA] at h;subst h;rfl
 |exit id=>intro b h;simp only[gW,aA] at h;subst h;rfl
 |seq x y yC yD=>
  intro b h;unfold gW at h;split at h
  ·rename_i p q h1 h2;simp only[aA] at h;subst h;simp only[iW,yC h1,yD h2]
  ·cases h
 |cond t x y yC yD=>
  intro b h;unfold gW at h;split at h
  ·rename_i u p q h0 h1 h2;simp only[aA] at h;subst h;simp only[iW,yC h1,yD h2,h0]
  ·cases h
 |block id c ih=>
  intro b h;simp only[gW,bO] at h;obtain⟨p,h1,rfl⟩:=h;simp only[iW,ih h1]
 |loop c ih=>
  intro b h;simp only[gW,bO] at h;obtain⟨p,h1,rfl⟩:=h;simp only[iW,ih h1]
 |region id ops d=>
  intro b h;unfold gW at h;split at h
  ·rename_i l hl
   cases d with
   |false=>
    simp only[aA] at h;subst h;simp only[iW,XQ hl]
   |true=>
    dsimp only at h;split at h
    ·rename_i n t U ht;split at h
     ·simp only[aA] at h;subst h;simp only[iW,XQ hl,ht]
     ·cases h
    ·cases h
  ·cases h
 |_=>intro b h;simp[gW] at h
end
def tk:Nat->Nat->OT->OT
 |_,0,t=>t
 |a,n+1,t=> .take a (tk (a+1) n t)
def tz (r n:Nat):Nat×Nat×OT×List Nat:=(r,n,tk 0 n .nil,[])
def tm (r n:Nat):Nat×Nat×OT×List Nat:=(r,n+1,tk 0 n (.move n .nil),[])
def aB (b:Nat)(l:List Nat):gV:=⟨b,l,[],[],cU,[],[]⟩
def aO (l:List Nat):gV:=aB 0 l
def aN:gV:=aO []
def NW (P:Program)(a:gV)(ts:Trees)(fn:Func):Bool:=(gW P a fn.ntmps ts (fn.body.getD .skip)).isSome && fn.body.isSome
theorem XR {P:Program}{a:gV}{ts:Trees}{fn:Func}{b:fk}(h:NW P a ts fn=true)(hb:iW P a ts (fn.body.getD .skip)=b):∃c,fn.body=some c/\gW P a fn.ntmps ts c=some b:=by
 unfold NW at h
 cases hc:fn.body with
 |none=>rw[hc] at h;simp at h
 |some c=>
  rw[hc] at h hb;simp only[BI,Option.isSome_some,Bool.and_true] at h hb;obtain⟨x,hx⟩:=QW.1 h;exact⟨c,rfl,by rw[hx,<-hb,arl hx]⟩
section
variable {P:Program} {a:gV} {N:Nat} {ts:Trees} {ops:Array Oper}
variable {p q:fk} {x y:Code}
theorem evS(h1:iW P a ts x=p)(h2:iW P a ts y=q):iW P a ts (.seq x y)=.seq p q:=by subst h1 h2;rfl
theorem evB{id:Nat}(h1:iW P a ts x=p):iW P a ts (.block id x)=.block id p:=by subst h1;rfl
theorem evL(h1:iW P a ts x=p):iW P a ts (.loop x)=.loop p:=by subst h1;rfl
theorem evC{t:Operand}{u:aP}(h1:iW P a ts x=p)(h2:iW P a ts y=q)(h0:ee t=some u:=by rfl):iW P a ts (.cond t x y)=.cond u p q:=by subst h1 h2;simp only[iW,h0]
end
variable {D:List Nat} {V:List (Nat×AV)} {b:fk} {f:FuncId} {fn:Func}
theorem cC{args:List AW}{Q:AV->Prop}{S:List (Nat×Slot)}(hf:Tryz.prog.funcs[f]? =some fn)(a:gV)(ts:Trees)(rv:List RV)(vs ss:List Nat)(k:aM (lift Tryz.prog b) (RZ rv Q) ⟨V,[],S⟩)
  (h:iW Tryz.prog a ts (fn.body.getD .skip)=b:=by first|(cbv;done)|(repeat' (first|apply evS|apply evB|apply evL|apply evC|(cbv;done)))) (ok:NW Tryz.prog a ts fn=true:=by kernel_rfl) (pE:vh Tryz.prog fn.results.toList=some rv:=by kernel_rfl) (hE:a.eqs=cU:=by exact rfl) (hn:Nat.ble args.length fn.ntmps=true:=by exact rfl) (hV:V0 args 0 vs=V:=by(dsimp only[V0,uV])<;>rfl) (hS:S0 ss=S:=by(dsimp only[S0])<;>rfl):aU Tryz.prog f args Q:=by
 subst hV hS;obtain⟨c,h1,h2⟩:=XR ok h;exact aeV (by rw[hE];exact Xm) hf h1 h2 rv pE args hn vs ss k
theorem qP{args:List AV}{T:List (Nat×Slot)}{Q:AV->(Nat->Slot)->Prop}{S:List (Nat×Slot)}(hf:Tryz.prog.funcs[f]? =some fn)(a:gV)(ts:Trees)(rv:List RV)(vs ss:List Nat)(k:aM (lift Tryz.prog b) (Sc D rv Q) ⟨V,[],S⟩)
  (h:iW Tryz.prog a ts (fn.body.getD .skip)=b:=by first|(cbv;done)|(repeat' (first|apply evS|apply evB|apply evL|apply evC|(cbv;done)))) (ok:NW Tryz.prog a ts fn=true:=by kernel_rfl) (pE:vh Tryz.prog fn.results.toList=some rv:=by kernel_rfl) (hE:a.eqs=cU:=by exact rfl) (hn:Nat.ble args.length fn.ntmps=true:=by exact rfl) (hV:VM args 0 vs=V:=by(dsimp only[VM,uV])<;>rfl) (hS:T++S0 ss=S:=by(dsimp only[S0,List.cons_append,List.nil_append])<;>rfl) (hD:T.map (·.1)=D:=by(dsimp only[List.map])<;>rfl):iB Tryz.prog f args T Q:=by
 subst hV hS hD;obtain⟨c,h1,h2⟩:=XR ok h;exact afg (by rw[hE];exact Xm) hf h1 h2 rv pE args hn T vs ss k
theorem afp{P:Program}{U:Option (List Nat)}{d:Option Nat}{ys:List aP}{r:List BO}{K:St->Prop}{st st':St}{ws:List AV}{x0:AV}{Ys:List (Nat×Slot)}{t:Nat}{want:Bool}(hg:lH (st.arg (.t t)) want=some true)(ha:mM st ys=some ws)(hc:ws.all (iC D)=true)(hD:∀s∈D,(aI st.S s).isSome=true/\fy D (st.slot s)=true)(hU:∀s∈D,qN U s=true)
  (hC:iB P f ws (gL st D) (fun x S'=>x=x0/\∀p∈Ys,S' p.1=p.2)) (hY:Ys.map (·.1)=D) (hx:iC D x0=true) (dB:∀p∈Ys,fy D p.2=true) (hst:(ml Ys st).eM d x0=st') (h:bt U (r.map (BO.ao P)) K st'):
  bt U ((⟨d,some (t,want),.nB f ys D⟩::r:List BO).map (BO.ao P)) K st:=by
 show(match lH (st.arg (.t t)) want with
  |some true=>_
  |some false=>_
  |none=>False)
 rw[hg];exact XP (d:=d) ha hc hD hU hC hY hx dB hst h
attribute [local irreducible] aM bt aX
def Sh (b:BO):Bool:=match b.g,b.op with |none,.call ..=>false|none,.nB ..=>false|none,.qM ..=>false|_,.app ..=>false|_,_=>true
def isApp (b:BO):Bool:=match b.op with | .app ..=>true|_=>false
section
variable {P:Program} {Q:gM->St->Prop} {V L:List (Nat×AV)} {S:List (Nat×Slot)} {st:St} {x y z:fk}
end
variable {p:Prop}
theorem vx(h:p:=by(simp[FF]);(try rfl);(first|done|fail)):p:=h
theorem mn(h:p:=by(simp[FF]);(first|done|fail)):p:=h
theorem XS(h:p:=by(simp[FF,dt,rowsOf,List.range,List.range.loop]);(try rfl);(first|done|fail)):p:=h
theorem afq(h:p:=by(simp[FF]);(first|done|exact⟨rfl,rfl,rfl⟩|rfl)):p:=h
theorem afr(h:p:=by(simp[St.mh,FF]);(first|done|exact⟨rfl,rfl,rfl⟩|rfl)):p:=h
theorem arn(h:p:=by(first|(simp[FF];done)|(simp[FF];omega))):p:=h
theorem vy(h:p:=by(simp[FF,<-List.map_take,<-List.map_drop]);(try rfl);(first|done|fail)):p:=h
theorem mo(h:p:=by(simp[FF,<-List.map_take,<-List.map_drop]);(first|done|fail)):p:=h
theorem XT(h:p:=by(simp[FF,<-List.map_take,<-List.map_drop,dt,rowsOf,List.range,List.range.loop]);(try rfl);(first|done|fail)):p:=h
theorem afs(h:p:=by(simp[FF,<-List.map_take,<-List.map_drop]);(first|done|exact⟨rfl,rfl,rfl⟩|rfl)):p:=h
theorem aft(h:p:=by(simp[St.mh,FF,<-List.map_take,<-List.map_drop]);(first|done|exact⟨rfl,rfl,rfl⟩|rfl)):p:=h
theorem aro(h:p:=by(first|(simp[FF,<-List.map_take,<-List.map_drop];done)|(simp[FF,<-List.map_take,<-List.map_drop];omega))):p:=h
section
variable {U:Option (List Nat)}
variable {d:Option Nat}
variable {f:FuncId}
variable {ys:List aP}
variable {r l l2:List BO}
variable {st':St}
variable {K:St->Prop}
variable {ws:List AW}
variable {x0:AV}
variable {t:OT}
variable {want bp:Bool}
variable {D:List Nat}
variable {Ys:List (Nat×Slot)}
variable {n e k s g i off:Nat}
variable {p q u v:aP}
variable {es:List (List AC)}
variable {b:BO}
variable {tl:List AO}
variable {P:Program} {Q:gM->St->Prop} {V L:List (Nat×AV)} {S:List (Nat×Slot)} {st:St} {x y z:fk}
theorem qQ {x:AV}(hC:aU P f ws (fun y=>y=x))(hr:bt U (r.map (BO.ao P)) K (st.eM d x))(ha:oL st ys=some ws:=by first|exact vx|fail):
  bt U ((⟨d,none,.call f ys⟩::r:List BO).map (BO.ao P)) K st:=Em ha hC hr
theorem qR {x:AV}{t:Nat}(hC:aU P f ws (fun y=>y=x))(hr:bt U (r.map (BO.ao P)) K (st.eM d x))(hg:st.sc (.t t)=some (.bool want):=by first|exact mn|fail)(ha:oL st ys=some ws:=by first|exact vx|fail):
  bt U ((⟨d,some (t,want),.call f ys⟩::r:List BO).map (BO.ao P)) K st:=aeW hg ha hC hr
theorem vz {ws:List AV}(hC:iB P f ws (gL st D) (fun x S'=>x=x0/\∀p∈Ys,S' p.1=p.2))(h:bt U (r.map (BO.ao P)) K st')(ha:mM st ys=some ws:=by first|exact vx|fail)(hc:ws.all (iC D)=true:=by first|exact mn|fail)(hD:∀s∈D,(aI st.S s).isSome=true/\fy D (st.slot s)=true:=by first|exact mn|fail)(hU:∀s∈D,qN U s=true:=by first|exact mn|fail)(hY:Ys.map (·.1)=D:=by exact rfl)(hx:iC D x0=true:=by first|exact mn|fail)(dB:∀p∈Ys,fy D p.2=true:=by first|exact mn|fail)(hst:(ml Ys st).eM d x0=st':=by first|exact vx|fail):
  bt U ((⟨d,none,.nB f ys D⟩::r:List BO).map (BO.ao P)) K st:=XP ha hc hD hU hC hY hx dB hst h
theorem vA {ws:List AV}{t:Nat}(hC:iB P f ws (gL st D) (fun x S'=>x=x0/\∀p∈Ys,S' p.1=p.2))(h:bt U (r.map (BO.ao P)) K st')(hg:lH (st.arg (.t t)) want=some true:=by first|exact mn|fail)(ha:mM st ys=some ws:=by first|exact vx|fail)(hc:ws.all (iC D)=true:=by first|exact mn|fail)(hD:∀s∈D,(aI st.S s).isSome=true/\fy D (st.slot s)=true:=by first|exact mn|fail)(hU:∀s∈D,qN U s=true:=by first|exact mn|fail)(hY:Ys.map (·.1)=D:=by exact rfl)(hx:iC D x0=true:=by first|exact mn|fail)(dB:∀p∈Ys,fy D p.2=true:=by first|exact mn|fail)(hst:(ml Ys st).eM d x0=st':=by first|exact vx|fail):
  bt U ((⟨d,some (t,want),.nB f ys D⟩::r:List BO).map (BO.ao P)) K st:=afp hg ha hc hD hU hC hY hx dB hst h
theorem xg (h:bt U (r.map (BO.ao P)) K st')(hx:mO U (pA D st) ⟨d,none,.store n p q⟩=some st':=by first|exact vx|fail):
  bt U ((⟨d,none,.qM D n p q⟩::r:List BO).map (BO.ao P)) K st:=aeY hx h
theorem xh {ys:List (List AC)}(h:bt U (r.map (BO.ao P)) K st')(hx:st.arg u=some (.w (.c (.own s g))):=by exact rfl)(hs:aI st.S s=some (.row e k g es):=by exact rfl)(hy:st.rows [s] (st.arg v)=some ys:=by exact rfl)(hk:∀row∈ys,row.length=k:=by first|exact mn|fail)(hl:es.length+ys.length<=100000000:=by first|exact arn|fail)(hU:qN U s=true:=by exact rfl)(hst:(st.cn s (.row e k (g+1) (es++ys))).eM d (.w (.c (.own s (g+1))))=st':=by first|exact vx|fail):
  bt U ((⟨d,none,.app e k u v⟩::r:List BO).map (BO.ao P)) K st:=En hx hs hy hk hl hU hst h
theorem xi (hr:bt U (r.map (BO.ao P)) K st')(hp:Sh b=true:=by exact rfl)(h:mO U st b=some st':=by first|exact XS|fail):
  bt U ((b::r).map (BO.ao P)) K st:=bh h hr
theorem xj {U:List Nat}(h:aX U (l.map (BO.ao P)) tl K t bp st')(hi:l[i]? =some b:=by exact rfl)(hx:Ep U st b bp=some st':=by first|exact vx|fail):
  aX U (l.map (BO.ao P)) tl K (.take i t) bp st:=qO hi hx h
theorem qU {U:List Nat}{x:AV}(hC:aU P f ws (fun y=>y=x))(h:aX U (l.map (BO.ao P)) tl K t true (st.eM d x))(hi:l[i]? =some ⟨d,none,.call f ys⟩:=by exact rfl)(ha:oL st ys=some ws:=by first|exact vx|fail):
  aX U (l.map (BO.ao P)) tl K (.move i t) bp st:=Hh hi ha hC h
theorem vB {U:List Nat}{ws:List AV}(hi:l[i]? =some ⟨d,none,.nB f ys D⟩)(hC:iB P f ws (gL st D) (fun x S'=>x=x0/\∀p∈Ys,S' p.1=p.2))(h:aX U (l.map (BO.ao P)) tl K t true st')(ha:mM st ys=some ws:=by first|exact vx|fail)(hc:ws.all (iC D)=true:=by first|exact mn|fail)(hD:∀s∈D,(aI st.S s).isSome=true/\fy D (st.slot s)=true:=by first|exact mn|fail)(hU:∀s∈D,s∈U:=by first|exact mn|fail)(hY:Ys.map (·.1)=D:=by exact rfl)(hx:iC D x0=true:=by first|exact mn|fail)(dB:∀p∈Ys,fy D p.2=true:=by first|exact mn|fail)(hst:(ml Ys st).eM d x0=st':=by first|exact vx|fail):
  aX U (l.map (BO.ao P)) tl K (.move i t) bp st:=afo hi ha hc hD hU hC hY hx dB hst h
theorem xk {U:List Nat}(h:aX U (l.map (BO.ao P)) tl K t true st')(hi:l[i]? =some ⟨d,none,.qM D n p q⟩:=by exact rfl)(hx:mO (some U) (pA D st) ⟨d,none,.store n p q⟩=some st':=by first|exact vx|fail):
  aX U (l.map (BO.ao P)) tl K (.move i t) bp st:=afa hi hx h
theorem xl {U:List Nat}(h:aX U (l.map (BO.ao P)) tl K t true st')(hi:l[i]? =some b:=by exact rfl)(hp:Sh b=true:=by exact rfl)(hx:mO (some U) st b=some st':=by first|exact XS|fail):
  aX U (l.map (BO.ao P)) tl K (.move i t) bp st:=KM hi hx h
theorem xm {U:List Nat}(h:aX U (l.map (BO.ao P)) tl K t true st')(hi:l[i]? =some b:=by exact rfl)(hp:isApp b=true:=by exact rfl)(hx:mO (some U) st b=some st':=by first|exact XS|fail):
  aX U (l.map (BO.ao P)) tl K (.move i t) bp st:=KM hi hx h
theorem xn {U:List Nat}{l:List AO}(h:bt none (r.map (BO.ao P)) K st)(hr:l2.drop n=r:=by simp only[qj,uK];(try rfl);(first|done|fail)):
  aX U l ((l2.drop n).map (BO.ao P)) K .nil bp st:=afl hr h
theorem zc1 {t:aP}(h:aM (lift P (.seq x z)) Q st)(hb:st.sc t=some (.bool true):=by first|exact mn|fail):
  aM (lift P (.seq (.cond t x y) z)) Q st:=afh hb h
theorem zc2 {t:aP}(h:aM (lift P (.seq y z)) Q st)(hb:st.sc t=some (.bool false):=by first|exact mn|fail):
  aM (lift P (.seq (.cond t x y) z)) Q st:=afi hb h
theorem zc3 {t:aP}(h:aM (lift P x) Q st)(hb:st.sc t=some (.bool true):=by first|exact mn|fail):
  aM (lift P (.cond t x y)) Q st:=afj hb h
theorem zc4 {t:aP}(h:aM (lift P y) Q st)(hb:st.sc t=some (.bool false):=by first|exact mn|fail):
  aM (lift P (.cond t x y)) Q st:=afk hb h
theorem zc5 (h:aM (lift P (.seq x z)) Q st')(hs:st.freeze s=st':=by first|exact afq|fail):
  aM (lift P (.seq (.mi s x) z)) Q st:=XJ hs h
theorem zc6 (h:aM (lift P x) Q st')(hs:st.freeze s=st':=by first|exact afq|fail):
  aM (lift P (.mi s x)) Q st:=XL hs h
theorem zc7 {b:Nat}(h:aM (lift P (.seq x z)) Q st')(hs:st.mh b off s e k=st':=by first|exact afr|fail):
  aM (lift P (.seq (.pC b off s e k x) z)) Q st:=aeZ hs h
theorem zc8 {b:Nat}(h:aM (lift P x) Q st')(hs:st.mh b off s e k=st':=by first|exact afr|fail):
  aM (lift P (.pC b off s e k x)) Q st:=XK hs h
theorem arp {x:AV}(hC:aU P f ws (fun y=>y=x))(hr:bt U (r.map (BO.ao P)) K (st.eM d x))(ha:oL st ys=some ws:=by first|exact vy|fail):
  bt U ((⟨d,none,.call f ys⟩::r:List BO).map (BO.ao P)) K st:=Em ha hC hr
theorem arq {x:AV}{t:Nat}(hC:aU P f ws (fun y=>y=x))(hr:bt U (r.map (BO.ao P)) K (st.eM d x))(hg:st.sc (.t t)=some (.bool want):=by first|exact mo|fail)(ha:oL st ys=some ws:=by first|exact vy|fail):
  bt U ((⟨d,some (t,want),.call f ys⟩::r:List BO).map (BO.ao P)) K st:=aeW hg ha hC hr
theorem ars {ws:List AV}(hC:iB P f ws (gL st D) (fun x S'=>x=x0/\∀p∈Ys,S' p.1=p.2))(h:bt U (r.map (BO.ao P)) K st')(ha:mM st ys=some ws:=by first|exact vy|fail)(hc:ws.all (iC D)=true:=by first|exact mo|fail)(hD:∀s∈D,(aI st.S s).isSome=true/\fy D (st.slot s)=true:=by first|exact mo|fail)(hU:∀s∈D,qN U s=true:=by first|exact mo|fail)(hY:Ys.map (·.1)=D:=by exact rfl)(hx:iC D x0=true:=by first|exact mo|fail)(dB:∀p∈Ys,fy D p.2=true:=by first|exact mo|fail)(hst:(ml Ys st).eM d x0=st':=by first|exact vy|fail):
  bt U ((⟨d,none,.nB f ys D⟩::r:List BO).map (BO.ao P)) K st:=XP ha hc hD hU hC hY hx dB hst h
theorem art {ws:List AV}{t:Nat}(hC:iB P f ws (gL st D) (fun x S'=>x=x0/\∀p∈Ys,S' p.1=p.2))(h:bt U (r.map (BO.ao P)) K st')(hg:lH (st.arg (.t t)) want=some true:=by first|exact mo|fail)(ha:mM st ys=some ws:=by first|exact vy|fail)(hc:ws.all (iC D)=true:=by first|exact mo|fail)(hD:∀s∈D,(aI st.S s).isSome=true/\fy D (st.slot s)=true:=by first|exact mo|fail)(hU:∀s∈D,qN U s=true:=by first|exact mo|fail)(hY:Ys.map (·.1)=D:=by exact rfl)(hx:iC D x0=true:=by first|exact mo|fail)(dB:∀p∈Ys,fy D p.2=true:=by first|exact mo|fail)(hst:(ml Ys st).eM d x0=st':=by first|exact vy|fail):
  bt U ((⟨d,some (t,want),.nB f ys D⟩::r:List BO).map (BO.ao P)) K st:=afp hg ha hc hD hU hC hY hx dB hst h
theorem afu (h:bt U (r.map (BO.ao P)) K st')(hx:mO U (pA D st) ⟨d,none,.store n p q⟩=some st':=by first|exact vy|fail):
  bt U ((⟨d,none,.qM D n p q⟩::r:List BO).map (BO.ao P)) K st:=aeY hx h
theorem afv {ys:List (List AC)}(h:bt U (r.map (BO.ao P)) K st')(hx:st.arg u=some (.w (.c (.own s g))):=by exact rfl)(hs:aI st.S s=some (.row e k g es):=by exact rfl)(hy:st.rows [s] (st.arg v)=some ys:=by exact rfl)(hk:∀row∈ys,row.length=k:=by first|exact mo|fail)(hl:es.length+ys.length<=100000000:=by first|exact aro|fail)(hU:qN U s=true:=by exact rfl)(hst:(st.cn s (.row e k (g+1) (es++ys))).eM d (.w (.c (.own s (g+1))))=st':=by first|exact vy|fail):
  bt U ((⟨d,none,.app e k u v⟩::r:List BO).map (BO.ao P)) K st:=En hx hs hy hk hl hU hst h
theorem afw (hr:bt U (r.map (BO.ao P)) K st')(hp:Sh b=true:=by exact rfl)(h:mO U st b=some st':=by first|exact XT|fail):
  bt U ((b::r).map (BO.ao P)) K st:=bh h hr
theorem afx {U:List Nat}(h:aX U (l.map (BO.ao P)) tl K t bp st')(hi:l[i]? =some b:=by exact rfl)(hx:Ep U st b bp=some st':=by first|exact vy|fail):
  aX U (l.map (BO.ao P)) tl K (.take i t) bp st:=qO hi hx h
theorem aru {U:List Nat}{x:AV}(hC:aU P f ws (fun y=>y=x))(h:aX U (l.map (BO.ao P)) tl K t true (st.eM d x))(hi:l[i]? =some ⟨d,none,.call f ys⟩:=by exact rfl)(ha:oL st ys=some ws:=by first|exact vy|fail):
  aX U (l.map (BO.ao P)) tl K (.move i t) bp st:=Hh hi ha hC h
theorem arv {U:List Nat}{ws:List AV}(hi:l[i]? =some ⟨d,none,.nB f ys D⟩)(hC:iB P f ws (gL st D) (fun x S'=>x=x0/\∀p∈Ys,S' p.1=p.2))(h:aX U (l.map (BO.ao P)) tl K t true st')(ha:mM st ys=some ws:=by first|exact vy|fail)(hc:ws.all (iC D)=true:=by first|exact mo|fail)(hD:∀s∈D,(aI st.S s).isSome=true/\fy D (st.slot s)=true:=by first|exact mo|fail)(hU:∀s∈D,s∈U:=by first|exact mo|fail)(hY:Ys.map (·.1)=D:=by exact rfl)(hx:iC D x0=true:=by first|exact mo|fail)(dB:∀p∈Ys,fy D p.2=true:=by first|exact mo|fail)(hst:(ml Ys st).eM d x0=st':=by first|exact vy|fail):
  aX U (l.map (BO.ao P)) tl K (.move i t) bp st:=afo hi ha hc hD hU hC hY hx dB hst h
theorem afy {U:List Nat}(h:aX U (l.map (BO.ao P)) tl K t true st')(hi:l[i]? =some ⟨d,none,.qM D n p q⟩:=by exact rfl)(hx:mO (some U) (pA D st) ⟨d,none,.store n p q⟩=some st':=by first|exact vy|fail):
  aX U (l.map (BO.ao P)) tl K (.move i t) bp st:=afa hi hx h
theorem afz {U:List Nat}(h:aX U (l.map (BO.ao P)) tl K t true st')(hi:l[i]? =some b:=by exact rfl)(hp:Sh b=true:=by exact rfl)(hx:mO (some U) st b=some st':=by first|exact XT|fail):
  aX U (l.map (BO.ao P)) tl K (.move i t) bp st:=KM hi hx h
theorem afA {U:List Nat}(h:aX U (l.map (BO.ao P)) tl K t true st')(hi:l[i]? =some b:=by exact rfl)(hp:isApp b=true:=by exact rfl)(hx:mO (some U) st b=some st':=by first|exact XT|fail):
  aX U (l.map (BO.ao P)) tl K (.move i t) bp st:=KM hi hx h
theorem afB {U:List Nat}{l:List AO}(h:bt none (r.map (BO.ao P)) K st)(hr:l2.drop n=r:=by simp only[qj,uK];(try rfl);(first|done|fail)):
  aX U l ((l2.drop n).map (BO.ao P)) K .nil bp st:=afl hr h
theorem afC {t:aP}(h:aM (lift P (.seq x z)) Q st)(hb:st.sc t=some (.bool true):=by first|exact mo|fail):
  aM (lift P (.seq (.cond t x y) z)) Q st:=afh hb h
theorem afD {t:aP}(h:aM (lift P (.seq y z)) Q st)(hb:st.sc t=some (.bool false):=by first|exact mo|fail):
  aM (lift P (.seq (.cond t x y) z)) Q st:=afi hb h
theorem afE {t:aP}(h:aM (lift P x) Q st)(hb:st.sc t=some (.bool true):=by first|exact mo|fail):
  aM (lift P (.cond t x y)) Q st:=afj hb h
theorem afF {t:aP}(h:aM (lift P y) Q st)(hb:st.sc t=some (.bool false):=by first|exact mo|fail):
  aM (lift P (.cond t x y)) Q st:=afk hb h
theorem afG (h:aM (lift P (.seq x z)) Q st')(hs:st.freeze s=st':=by first|exact afs|fail):
  aM (lift P (.seq (.mi s x) z)) Q st:=XJ hs h
theorem afH (h:aM (lift P x) Q st')(hs:st.freeze s=st':=by first|exact afs|fail):
  aM (lift P (.mi s x)) Q st:=XL hs h
theorem afI {b:Nat}(h:aM (lift P (.seq x z)) Q st')(hs:st.mh b off s e k=st':=by first|exact aft|fail):
  aM (lift P (.seq (.pC b off s e k x) z)) Q st:=aeZ hs h
theorem afJ {b:Nat}(h:aM (lift P x) Q st')(hs:st.mh b off s e k=st':=by first|exact aft|fail):
  aM (lift P (.pC b off s e k x)) Q st:=XK hs h
end
theorem arw {U:Option (List Nat)}{st:St}{op:fe}{m:Bool}{ev:St->List Nat->Option AV}{x:AV}(he:cA op=some (m,ev))(h:ev st []=some x):dA U st op=some (x,st):=by
 cases op with
 |sC k y lo hi=>
  cases lo with
  |none=>
   simp only[dA];split
   ·rename_i s g hy;simp only[cA,aA,jE] at he;obtain⟨_,rfl⟩:=he;dsimp only at h;rw[hy] at h;cases h
   ·rw[he];simp only[h,yl]
  |some lo=>simp only[dA];rw[he];simp only[h,yl]
 |_=>first|(simp only[cA] at he;cases he;done)|(simp only[dA];rw[he];simp only[h,yl])
def qV (V L:List (Nat×AV))(S:List (Nat×Slot))(U:List Nat)(op:fe)(x:AV):Prop:=∃m ev,cA op=some (m,ev)/\ev ⟨V,L,S⟩ U=some x
def XU (op:fe):Bool:=match cA op with
 |some (m,_)=>m
 |none=>false
section
variable {V L:List (Nat×AV)} {S:List (Nat×Slot)} {U:List Nat}
variable {c:AC} {cs r ys:List AC} {e g i k m:Nat} {es:List (List AC)} {kk:IntKind} {p x y:aP} {q u:Value}
theorem NY(h:St.arg ⟨V,L,S⟩ y=some (.w (.c (.v u)))):St.sc ⟨V,L,S⟩ y=some u:=by unfold St.sc;rw[h];rfl
theorem Si{s:Nat}{x:Slot}(h:aI S s=some x):St.slot ⟨V,L,S⟩ s=x:=by unfold St.slot;rw[h];rfl
theorem KN{off:Nat}(h:(cs.drop off).take 1=c::r):off+1<=cs.length/\(cs.drop off).take 1=[c]:=by
 have h2:=aG List.length h;simp only[dN,lU,List.length_cons] at h2;refine⟨ab,?_⟩;have:r=[]:=BC.1 ab;rw[h,this]
theorem afK{s off n:Nat}(hs:aI S s=some (.box g cs))(hU:U.contains s=false)(hl:off+n<=cs.length)(h:(cs.drop off).take n=ys):St.cells ⟨V,L,S⟩ U n (some (.pb s g off))=some ys:=by
 have hm:s∉U:=fun hm=>by rw[List.contains_iff_mem.2 hm] at hU;cases hU
 simp only[St.cells,Si hs];rw[aq ⟨trivial,hm,hl⟩,h]
theorem afL{s off n:Nat}{row:List AC}(hs:aI S s=some (.row e k g es))(hU:U.contains s=false)(hr:es[i]? =some row)(hl:off+n<=row.length)(h:(row.drop off).take n=ys):St.cells ⟨V,L,S⟩ U n (some (.pr s g i off))=some ys:=by
 have hm:s∉U:=fun hm=>by rw[List.contains_iff_mem.2 hm] at hU;cases hU
 simp only[St.cells,Si hs];rw[aq ⟨trivial,hm⟩,hr];dsimp only;rw[aq hl,h]
theorem afM{off n:Nat}(hl:off+n<=cs.length)(h:(cs.drop off).take n=ys):St.cells ⟨V,L,S⟩ U n (some (.pi cs off))=some ys:=by
 simp only[St.cells];rw[aq hl,h]
theorem eMv{x:AV}(h:St.arg ⟨V,L,S⟩ y=some x:=by exact rfl):qV V L S U (.mv y) x:=⟨_,_,rfl,h⟩
theorem afN{o:BinOp}{z:aP}{v:Value}(h1:St.arg ⟨V,L,S⟩ y=some (.w (.c (.v u))):=by exact rfl)(h2:St.arg ⟨V,L,S⟩ z=some (.w (.c (.v v))):=by exact rfl)(h:aW o u v=some q:=by(simp[FF]);(try rfl);(first|done|fail)):qV V L S U (.bin o y z) (.w (.c (.v q))):=
 ⟨_,_,rfl,by(try dsimp only);rw[NY h1,NY h2];(try dsimp only);rw[h];rfl⟩
theorem eUn{o:UnOp}(h1:St.arg ⟨V,L,S⟩ y=some (.w (.c (.v u))):=by exact rfl)(h:Ea o u=some q:=by(simp[FF]);(try rfl);(first|done|fail)):qV V L S U (.un o y) (.w (.c (.v q))):=
 ⟨_,_,rfl,by(try dsimp only);rw[NY h1];(try dsimp only);rw[h];rfl⟩
theorem afO{n:Int}(h1:St.arg ⟨V,L,S⟩ y=some (.w (.c (.sl es))):=by exact rfl)(h:(es.length:Int)=n:=by first|((simp[FF]);(try rfl);(first|done|fail))|exact rfl):qV V L S U (.len y) (.w (.c (.v (.int .i64 n)))):=
 ⟨_,_,rfl,by(try dsimp only);rw[h1];subst h;rfl⟩
theorem afP{s:Nat}{n:Int}(h1:St.arg ⟨V,L,S⟩ y=some (.w (.c (.own s g))):=by exact rfl)(hs:aI S s=some (.row e k g es):=by exact rfl)(h:(es.length:Int)=n:=by first|((simp[FF]);(try rfl);(first|done|fail))|exact rfl):qV V L S U (.len y) (.w (.c (.v (.int .i64 n)))):=
 ⟨_,_,rfl,by(try dsimp only);rw[h1];simp only[St.rows,Si hs];rw[aq ⟨trivial,jD⟩];subst h;rfl⟩
theorem afQ{s off:Nat}(h1:St.arg ⟨V,L,S⟩ p=some (.pb s g off):=by exact rfl)(hs:aI S s=some (.box g cs):=by exact rfl)(hU:U.contains s=false:=by exact rfl)(h:(cs.drop off).take 1=ys:=by first|((simp[FF]);(try rfl);(first|done|fail))|exact rfl)(h2:ys=c::r:=by exact rfl):qV V L S U (.ld1 p) (.w (.c c)):=
 ⟨_,_,rfl,by(try dsimp only);rw[h1,afK hs hU (KN (h.trans h2)).1 (KN (h.trans h2)).2]⟩
theorem afR{s off:Nat}{row:List AC}(h1:St.arg ⟨V,L,S⟩ p=some (.pr s g i off):=by exact rfl)(hs:aI S s=some (.row e k g es):=by exact rfl)(hU:U.contains s=false:=by exact rfl)(hr:es[i]? =some row:=by first|((simp[FF]);(try rfl);(first|done|fail))|exact rfl)(h:(row.drop off).take 1=ys:=by first|((simp[FF]);(try rfl);(first|done|fail))|exact rfl)(h2:ys=c::r:=by exact rfl):qV V L S U (.ld1 p) (.w (.c c)):=
 ⟨_,_,rfl,by(try dsimp only);rw[h1,afL hs hU hr (KN (h.trans h2)).1 (KN (h.trans h2)).2]⟩
theorem afS{off:Nat}(h1:St.arg ⟨V,L,S⟩ p=some (.pi cs off):=by exact rfl)(h:(cs.drop off).take 1=ys:=by first|((simp[FF]);(try rfl);(first|done|fail))|exact rfl)(h2:ys=c::r:=by exact rfl):qV V L S U (.ld1 p) (.w (.c c)):=
 ⟨_,_,rfl,by(try dsimp only);rw[h1,afM (KN (h.trans h2)).1 (KN (h.trans h2)).2]⟩
theorem afT{s off:Nat}(h1:St.arg ⟨V,L,S⟩ p=some (.pb s g off):=by exact rfl)(hs:aI S s=some (.box g cs):=by exact rfl)(hl:off+0<=cs.length:=by first|((simp[FF]);done)|omega)(h:off+k=m:=by first|((simp[FF]);(try rfl);(first|done|fail))|exact rfl):qV V L S U (.xe p k) (.pb s g m):=
 ⟨_,_,rfl,by(try dsimp only);rw[h1,afK hs rfl hl rfl];subst h;rfl⟩
theorem afU{s off q:Nat}{row:List AC}(h1:St.arg ⟨V,L,S⟩ p=some (.pr s g i off):=by exact rfl)(hs:aI S s=some (.row e q g es):=by exact rfl)(hr:es[i]? =some row:=by first|((simp[FF]);(try rfl);(first|done|fail))|exact rfl)(hl:off+0<=row.length:=by first|((simp[FF]);done)|omega)(h:off+k=m:=by first|((simp[FF]);(try rfl);(first|done|fail))|exact rfl):qV V L S U (.xe p k) (.pr s g i m):=
 ⟨_,_,rfl,by(try dsimp only);rw[h1,afL hs rfl hr hl rfl];subst h;rfl⟩
theorem afV{off:Nat}(h1:St.arg ⟨V,L,S⟩ p=some (.pi cs off):=by exact rfl)(hl:off+0<=cs.length:=by first|((simp[FF]);done)|omega)(h:off+k=m:=by first|((simp[FF]);(try rfl);(first|done|fail))|exact rfl):qV V L S U (.xe p k) (.pi cs m):=
 ⟨_,_,rfl,by(try dsimp only);rw[h1,afM hl rfl];subst h;rfl⟩
theorem afW{i:aP}{n:Int}{row:List AC}(h1:St.arg ⟨V,L,S⟩ x=some (.w (.c (.sl es))):=by exact rfl)(h2:St.arg ⟨V,L,S⟩ i=some (.w (.c (.v (.int kk n)))):=by exact rfl)(hb:0<=n/\n<es.length:=by(simp[FF]);(first|done|omega))(hr:es.getD n.toNat []=row:=by first|((simp[FF]);(try rfl);(first|done|fail))|exact rfl)(hl:row.length=k:=by(simp[FF];done)):qV V L S U (.idx k x i) (.pi row 0):=
 ⟨_,_,rfl,by(try dsimp only);rw[h1,NY h2];subst hr;simp only[St.rows,Eb];rw[aq ⟨hb.1,hb.2,hl⟩]⟩
theorem afX{i:aP}{s q:Nat}{n:Int}(h1:St.arg ⟨V,L,S⟩ x=some (.w (.c (.own s g))):=by exact rfl)(h2:St.arg ⟨V,L,S⟩ i=some (.w (.c (.v (.int kk n)))):=by exact rfl)(hs:aI S s=some (.row e q g es):=by exact rfl)(hb:0<=n/\n<es.length:=by(simp[FF]);(first|done|omega))(hl:(es.getD n.toNat []).length=k:=by(simp[FF];done))(hm:n.toNat=m:=by first|((simp[FF]);(try rfl);(first|done|fail))|exact rfl):qV V L S U (.idx k x i) (.pr s g m 0):=
 ⟨_,_,rfl,by(try dsimp only);rw[h1,NY h2];simp only[St.rows,Si hs];rw[aq ⟨trivial,jD⟩];subst hm;simp only[Eb];rw[aq ⟨hb.1,hb.2,hl⟩]⟩
theorem afY{vs:List AW}{w:AW}(h1:St.arg ⟨V,L,S⟩ x=some (.bD vs):=by exact rfl)(h:vs[i]? =some w:=by exact rfl):qV V L S U (.ext x i) (.w w):=
 ⟨_,_,rfl,by(try dsimp only);rw[h1];(try dsimp only);rw[h];rfl⟩
end
section
variable {P:Program} {d:Nat} {r:List BO} {V L:List (Nat×AV)} {S:List (Nat×Slot)} {K:St->Prop}
theorem tO {U:Option (List Nat)}{op:fe}{x:AV}(hr:bt U (r.map (BO.ao P)) K ⟨V,(d,x)::L,S⟩)(hd:(aI V d).isSome=false:=by exact rfl)(h:qV V L S [] op x:=by first|exact eMv|exact afN|exact afQ|exact afT|exact afW|exact afO|exact afS|exact afV|exact afX|exact afR|exact afU|exact afP|exact eUn|exact afY):
  bt U ((⟨some d,none,op⟩::r:List BO).map (BO.ao P)) K ⟨V,L,S⟩:=by
 obtain⟨m,ev,he,h⟩:=h;refine bh (st':=⟨V,(d,x)::L,S⟩) ?_ hr;simp only[mO,arw he h,yl,St.eM,St.put,hd];rfl
theorem tP {U:List Nat}{l:List BO}{tl:List AO}{i:Nat}{t:OT}{bp:Bool}{op:fe}{x:AV}(hr:aX U (l.map (BO.ao P)) tl K t bp ⟨V,(d,x)::L,S⟩)(hi:l[i]? =some ⟨some d,none,op⟩:=by exact rfl)(hm:(XU op && bp)=false:=by exact rfl)(hd:(aI V d).isSome=false:=by exact rfl)(h:qV V L S U op x:=by first|exact eMv|exact afN|exact afQ|exact afT|exact afW|exact afO|exact afS|exact afV|exact afX|exact afR|exact afU|exact afP|exact eUn|exact afY):
  aX U (l.map (BO.ao P)) tl K (.take i t) bp ⟨V,L,S⟩:=by
 obtain⟨m,ev,he,h⟩:=h;refine qO hi (st':=⟨V,(d,x)::L,S⟩) ?_ hr
 have Aq:¬(m=true/\bp=true):=fun q=>by
  have:XU op=m:=by unfold XU;rw[he]
  rw[this,q.1,q.2] at hm;cases hm
 simp only[Ep,he,af Aq,h,yl,St.eM,St.put,hd];rfl
end
variable {A B:Prop}
structure Bx (p:Prop):Prop where
 out:p
theorem aF(h:B)(g:Bx B->A:=by intro hB;(first|refine tO ?_|refine tP ?_|refine xi ?_|refine xh ?_|refine bz ?_|refine xj ?_|refine xl ?_|refine xm ?_|refine xn ?_|refine il ?_|refine k_reg ?_|refine Al ?_|refine tM ?_|refine xf ?_|refine Sb ?_|refine Am ?_|refine oN ?_|refine Cj ?_|refine Sa ?_|refine Sd ?_|refine yI ?_|refine KL ?_|refine zc1 ?_|refine zc2 ?_|refine zc3 ?_|refine zc4 ?_|refine zc7 ?_|refine zc8 ?_|refine zc5 ?_|refine zc6 ?_|refine xg ?_|refine xk ?_);(repeat (first|refine tO ?_|refine tP ?_|refine xi ?_|refine xh ?_|refine bz ?_|refine xj ?_|refine xl ?_|refine xm ?_|refine xn ?_|refine il ?_|refine k_reg ?_|refine Al ?_|refine tM ?_|refine xf ?_|refine Sb ?_|refine Am ?_|refine oN ?_|refine Cj ?_|refine Sa ?_|refine Sd ?_|refine yI ?_|refine KL ?_|refine zc1 ?_|refine zc2 ?_|refine zc3 ?_|refine zc4 ?_|refine zc7 ?_|refine zc8 ?_|refine zc5 ?_|refine zc6 ?_|refine xg ?_|refine xk ?_));exact hB.out):A:=g ⟨h⟩
theorem Cm(h:B)(g:Bx B->A:=by intro hB;(first|refine tO ?_|refine tP ?_|refine afw ?_|refine afv ?_|refine bz ?_|refine afx ?_|refine afz ?_|refine afA ?_|refine afB ?_|refine il ?_|refine k_reg ?_|refine Al ?_|refine tM ?_|refine xf ?_|refine Sb ?_|refine Am ?_|refine oN ?_|refine Cj ?_|refine Sa ?_|refine Sd ?_|refine yI ?_|refine KL ?_|refine afC ?_|refine afD ?_|refine afE ?_|refine afF ?_|refine afI ?_|refine afJ ?_|refine afG ?_|refine afH ?_|refine afu ?_|refine afy ?_);(repeat (first|refine tO ?_|refine tP ?_|refine afw ?_|refine afv ?_|refine bz ?_|refine afx ?_|refine afz ?_|refine afA ?_|refine afB ?_|refine il ?_|refine k_reg ?_|refine Al ?_|refine tM ?_|refine xf ?_|refine Sb ?_|refine Am ?_|refine oN ?_|refine Cj ?_|refine Sa ?_|refine Sd ?_|refine yI ?_|refine KL ?_|refine afC ?_|refine afD ?_|refine afE ?_|refine afF ?_|refine afI ?_|refine afJ ?_|refine afG ?_|refine afH ?_|refine afu ?_|refine afy ?_));exact hB.out):A:=g ⟨h⟩
theorem bJ{C1:Prop}(c1:C1)(h:B)(g:Bx B->C1->A:=by intro hB dC;(repeat (first|refine qQ dC ?_|refine qR dC ?_|refine vz dC ?_|refine vA dC ?_|refine qU dC ?_|refine vB rfl dC ?_|refine aF ?_));exact hB.out):A:=g ⟨h⟩ c1
theorem gX{C1 C2:Prop}(c1:C1)(c2:C2)(h:B)(g:Bx B->C1->C2->A:=by intro hB dC qW;(repeat (first|refine qQ dC ?_|refine qQ qW ?_|refine qR dC ?_|refine qR qW ?_|refine vz dC ?_|refine vz qW ?_|refine vA dC ?_|refine vA qW ?_|refine qU dC ?_|refine qU qW ?_|refine vB rfl dC ?_|refine vB rfl qW ?_|refine aF ?_));exact hB.out):A:=g ⟨h⟩ c1 c2
theorem yK{C1 C2 C3:Prop}(c1:C1)(c2:C2)(c3:C3)(h:B)(g:Bx B->C1->C2->C3->A:=by intro hB dC qW KO;(repeat (first|refine qQ dC ?_|refine qQ qW ?_|refine qQ KO ?_|refine qR dC ?_|refine qR qW ?_|refine qR KO ?_|refine vz dC ?_|refine vz qW ?_|refine vz KO ?_|refine vA dC ?_|refine vA qW ?_|refine vA KO ?_|refine qU dC ?_|refine qU qW ?_|refine qU KO ?_|refine vB rfl dC ?_|refine vB rfl qW ?_|refine vB rfl KO ?_|refine aF ?_));exact hB.out):A:=g ⟨h⟩ c1 c2 c3
theorem XV{C1:Prop}(c1:C1)(h:B)(g:Bx B->C1->A:=by intro hB dC;(repeat (first|refine arp dC ?_|refine arq dC ?_|refine ars dC ?_|refine art dC ?_|refine aru dC ?_|refine arv rfl dC ?_|refine Cm ?_));exact hB.out):A:=g ⟨h⟩ c1
theorem zE(h:B)(g:Bx B->A:=by intro hB;(try dsimp only[lI,mj]);refine kC (by simp;try rfl) ?_;exact hB.out):A:=g ⟨h⟩
theorem kE(h:B)(g:Bx B->A:=by intro hB;(try dsimp only[lI,mj]);refine arj (by first|(simp;done)|(simp[hl,hw,fz];try rfl)|(simp;try rfl)) ai ?_;exact hB.out):A:=g ⟨h⟩
end Ab
end Go.Proofs.YtkanpepkdcmpmaaGreatDoor
