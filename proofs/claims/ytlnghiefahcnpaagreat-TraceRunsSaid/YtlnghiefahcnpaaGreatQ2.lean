import Derived.Test.YtlnghiefahcnpaaGreatQ1
set_option maxHeartbeats 40000000
set_option maxRecDepth 100000
set_option linter.all false
namespace Go.Proofs.YtlnghiefahcnpaaGreat
namespace Ab
open Go Go.RowKit
section
variable {P:Program}
theorem amS {U:Option (List Nat)}{o:Oper}{t e:TypeId}{k s:Nat}{it:TypeInfo}{zv:Value}{za:List AC}{x:Operand}{q:aw}(ho:o.op=.makeSlice t x x)(hu:P.underlying t=some (.slice e))(hi:P.info? e=some it)(hz:it.zero=some zv)(hs:it.size=k)(bF:0<k)(tU:zv.cells.size=k)(kq:it.bytes<=1000)
  (h3:yy zv.cells.toList=some za) (hx:cJ x q):
  kO P U o (fun st X=>∃n:Nat,st.sc q=some (.int .i64 n)/\n<=1000000/\(cp k n za).all inl=true/\(aB st.S s).isSome=true/\X (.w (.c (.own s ((st.slot s).gen+1)))) (st.bM s (.row e k ((st.slot s).gen+1) (rowsOf k n (cp k n za))))):=by
 intro N F M w0 w st G H a X hR hsm K Q hK;obtain⟨n,e1,e2,e3,cA,hX⟩:=hsm;obtain⟨lH,-⟩:=hR.sc hx e1
 have hrun:=run_make (P:=P) w t e it zv hu hi hz .i64 .i64 (n:Int) (n:Int) aa aa (by
  have:it.bytes*n<=1000*1000000:=Nat.mul_le_mul kq e2;have:((it.bytes*n:Nat):Int)<=281474976710656:=aa
  rwa[Int.natCast_mul] at this) aa
 simp only[iT,hs] at hrun;have hcs:bT w (aW M st.slot G H) st.slot G H (cp k n za) (madeCells zv.cells (n*k)).toList:=MQ (MN h3) tU bF
 have hl:(cp k n za).length=n*k:=by simp[cp]
 have how:(w.alloc (.cells (madeCells zv.cells (n*k)) e)).ownsRow 0 e k (.slice (some ⟨w.heap.size,0,none⟩) n n) n (madeCells zv.cells (n*k)).toList:=by
  have:=World.ownsRow_lit (base:=w.heap.size) (e:=e) (size:=k) w (madeCells zv.cells (n*k)) n av (by simp only[maxLen];omega) (by simp[madeCells]);exact(by simpa using this:(w.alloc (.cells (madeCells zv.cells (n*k)) e)).ownsRow w.heap.size e k _ n _).mono (Nat.zero_le _)
 obtain⟨bC,hst⟩:=hR.newRow (w':=w.alloc (.cells (madeCells zv.cells (n*k)) e)) s cA (e:=e) (k:=k) (es:=rowsOf k n (cp k n za)) (by simp[rowsOf]) how (.inl (XP w _ _)) (fun b hb=> .inr (by simp[Value.ownBlock] at hb;omega)) (fun w2 A2 hm=>(Jd hl hcs e3).map hm);have hx:=hK _ _ _ _ (.slice (some ⟨w.heap.size,0,none⟩) n n) _ hX bC (hst U (.inr fun b hlt=>alloc_old w _ hlt)) ⟨rfl,by rw[St.jC,if_pos ⟨rfl,cA⟩];exact di _,fun _ _ _ _=>ae⟩;unfold Oper.wp execOp;simp only[ho,lp,lH,hrun,pf,qC];exact hx
theorem amT {o:Oper}{t:TypeId}{x:Operand}{y:aw}{e:TypeId}(ho:o.op=.call { callee:=.builtin .len,args:=#[x],argTypes:=#[t] })(ht:P.underlying t=some (.slice e))(hx:cJ x y):
  gX P false o (fun st _=>match st.rows [] (st.arg y) with |some es=>some (.w (.c (.v (.int .i64 es.length))))|none=>none):=by
 intro N F M w0 w st G H a U r h hr;dsimp only at hr;split at hr
 case h_2=>cases hr
 rename_i es hu;simp only[ar] at hr;subst hr;obtain⟨ad,c,e1,_,_⟩:=h.rows hx hu;refine⟨_,IR.v _ rfl,fun w' _=> ?_⟩;unfold execOp;simp[ho,resolve,e1,invoke,Go.builtin,Builtin.len_,km ht,goInt]
end
end Ab
namespace Ab
open Go Go.RowKit
inductive dz where
 |mv (x:aw)
 |Ad (s e k:Nat)
 |bin (op:BinOp) (x y:aw)
 |un (op:UnOp) (x:aw)
 |pick (c x y:aw)
 |len (x:aw)
 |mm (mx:Bool) (x y:aw)
 |sB (p:aw)
 |yr (n:Nat) (p:aw)
 |tT (p:aw) (off:Nat)
 |idx (k:Nat) (x i:aw)
 |yt (n k:Nat) (p i:aw)
 |nE (k:Nat) (x:aw) (lo hi:Option aw)
 |ext (x:aw) (i:Nat)
 |yu (x i:aw)
 |eqs (neg:Bool) (n:Nat) (x y:aw)
 |yv (za:List AC) (qs:List (Nat×Nat×aw))
 |box (s:Nat) (x:aw)
 |alloc (s:Nat) (za:List AC)
 |pT (k n:Nat) (za:List AC) (qs:List (Nat×Nat×aw))
 |tX (s e k n:Nat) (za:List AC) (qs:List (Nat×Nat×aw))
 |app (e k:Nat) (x y:aw)
 |call (f:FuncId) (ys:List aw)
 |kR (f:FuncId) (ys:List aw) (D:List Nat)
 |store (n:Nat) (p x:aw)
 |yC (k:Nat) (za:List AC) (x:aw)
 |wP (x:aw)
 |Ae (x:aw) (lo hi:Option aw)
 |Af (k:IntKind) (x:aw)
 |wQ (x:aw)
 |Ag (x y z:aw)
 |Ah (s e k:Nat) (za:List AC) (x:aw)
 |mG (D:List Nat) (n:Nat) (p x:aw)
def bV:dz->Option (Bool×(St->List Nat->Option AV))
 | .mv x=>some (false,fun st _=>st.arg x)
 | .bin op x y=>some (false,fun st _=>match st.sc x,st.sc y with |some u,some v=>(aY op u v).map fun r=> .w (.c (.v r))|_,_=>none)
 | .un op x=>some (false,fun st _=>match st.sc x with |some u=>(zO op u).map fun r=> .w (.c (.v r))|_=>none)
 | .pick c x y=>some (false,fun st _=>match st.sc c with |some (.bool true)=>st.arg x|some (.bool false)=>st.arg y|_=>none)
 | .len x=>some (false,fun st _=>match st.rows [] (st.arg x) with |some es=>some (.w (.c (.v (.int .i64 es.length))))|none=>none)
 | .mm mx x y=>some (false,fun st _=>match st.sc x,st.sc y with |some u,some v=>(zP mx u v).map fun r=> .w (.c (.v r))|_,_=>none)
 | .sB p=>some (true,fun st U=>match st.cells U 1 (st.arg p) with |some (c::_)=>some (.w (.c c))|_=>none)
 | .yr n p=>some (true,fun st U=>match st.cells U n (st.arg p) with |some cs=>some (.w (.agg cs))|_=>none)
 | .tT p off=>some (false,fun st _=>match st.cells [] 0 (st.arg p),st.arg p with |some _,some q=>some (q.shift off)|_,_=>none)
 | .idx k x i=>some (false,fun st _=>Cm k (st.rows [] (st.arg x)) (st.arg x) (st.sc i))
 | .yt n k p i=>some (false,fun st _=>IX n k (st.cells [] 0 (st.arg p)) (st.arg p) (st.sc i))
 | .nE k x lo hi=>some (false,fun st _=>match st.arg x with
   |some (.w (.c (.sl es)))=>match yx st lo,qZ st es.length hi with
    |some l,some h=>if l<=h/\h<=es.length/\∀row∈es,row.length=k then some (.w (.c (.sl ((es.take h).drop l)))) else none
    |_,_=>none
   |_=>none)
 | .ext x i=>some (false,fun st _=>match st.arg x with |some (.bQ vs)=>(vs[i]?).map .w|_=>none)
 | .yu x i=>some (false,fun st _=>match st.sc x,st.sc i with |some (.string s),some (.int _ n)=>if h:0<=n/\n.toNat<s.size then some (.w (.c (.v (.int .u8 (s.get n.toNat h.2).toNat)))) else none|_,_=>none)
 | .eqs neg n x y=>some (false,fun st _=>Jk neg n (st.arg x) (st.arg y))
 | .yv za qs=>some (false,fun st _=>match mB st qs with |some r=>(jQ za r).map fun cs=> .w (.agg cs)|none=>none)
 | .wP x=>some (false,fun st _=>match st.sc x with |some (.string s)=>some (.w (.c (.v (.int .i64 s.size))))|_=>none)
 | .Ae x lo hi=>some (false,fun st _=>match st.sc x with
   |some (.string s)=>match yx st lo,qZ st s.size hi with
    |some l,some h=>if l<=h/\h<=s.size then some (.w (.c (.v (.string (s.extract l h))))) else none
    |_,_=>none
   |_=>none)
 | .Af k x=>some (false,fun st _=>match st.sc x with |some (.int _ n)=>if k.wrap n=n then some (.w (.c (.v (.int k n)))) else none|_=>none)
 | .wQ p=>some (false,fun st _=>match st.cells [] 0 (st.arg p),st.arg p with |some _,some q=>some q|_,_=>none)
 | .Ag x y z=>some (false,fun st _=>match st.sc x,st.sc y,st.sc z with |some (.int .i64 a),some (.int .i64 b),some (.int .i64 c)=>some (.w (.c (.v (.int .i64 (max (max a b) c)))))|_,_,_=>none)
 |_=>none
def Cx (ev:St->List Nat->Option AV):zV:=fun st X=>∃x,ev st []=some x/\X x st
def amU (x:aw)(hi:Option aw):zV:=fun st X=>∃s g e k es h,st.arg x=some (.w (.c (.own s g)))/\aB st.S s=some (.row e k g es)/\qZ st es.length hi=some h/\h<=es.length/\X (.w (.c (.own s (g+1)))) (st.bM s (.row e k (g+1) (es.take h)))
def oK (P:Program)(U:Option (List Nat)):dz->zV
 | .Ad s e k=>fun st X=>(aB st.S s).isSome=true/\X (.w (.c (.own s ((st.slot s).gen+1)))) (st.bM s (.row e k ((st.slot s).gen+1) []))
 | .box s x=>fun st X=>∃xw,st.arg x=some (.w xw)/\(aB st.S s).isSome=true/\X (.pb s ((st.slot s).gen+1) 0) (st.bM s (.box ((st.slot s).gen+1) xw.cells))
 | .alloc s za=>fun st X=>(aB st.S s).isSome=true/\X (.pb s ((st.slot s).gen+1) 0) (st.bM s (.box ((st.slot s).gen+1) za))
 | .pT k n za qs=>fun st X=>∃pr cs,mB st qs=some pr/\jQ (cp k n za) pr=some cs/\cs.all inl=true/\X (.w (.c (.sl (rowsOf k n cs)))) st
 | .tX s e k n za qs=>fun st X=>∃pr cs,mB st qs=some pr/\jQ (cp k n za) pr=some cs/\cs.all inl=true/\(aB st.S s).isSome=true/\X (.w (.c (.own s ((st.slot s).gen+1)))) (st.bM s (.row e k ((st.slot s).gen+1) (rowsOf k n cs)))
 | .app e k x y=>fun st X=>∃s g es ys,st.arg x=some (.w (.c (.own s g)))/\aB st.S s=some (.row e k g es)/\st.rows [s] (st.arg y)=some ys/\(∀row∈ys,row.length=k)/\es.length+ys.length<=100000000/\sy U s/\X (.w (.c (.own s (g+1)))) (st.bM s (.row e k (g+1) (es++ys)))
 | .call f ys=>fun st X=>∃ws R,kP st ys=some ws/\bt P f ws R/\∀r,R r->X r st
 | .kR f ys D=>Yj P U f ys D
 | .store n p x=>fun st X=>∃xw st',st.arg x=some (.w xw)/\xw.cells.length=n/\st.store xw.cells (st.arg p)=some st'/\(∀s,EO (st.arg p)=some s->sy U s)/\X .u st'
 | .mG D n p x=>fun st0 X=>(fun(st:St) (X:AV->St->Prop)=>∃xw st',st.arg x=some (.w xw)/\xw.cells.length=n/\st.store xw.cells (st.arg p)=some st'/\(∀s,EO (st.arg p)=some s->sy U s)/\X .u st') (lK D st0) X
 | .yC k za x=>fun st X=>∃n:Nat,st.sc x=some (.int .i64 n)/\n<=1000000/\(cp k n za).all inl=true/\X (.w (.c (.sl (rowsOf k n (cp k n za))))) st
 | .Ah s e k za x=>fun st X=>∃n:Nat,st.sc x=some (.int .i64 n)/\n<=1000000/\(cp k n za).all inl=true/\(aB st.S s).isSome=true/\X (.w (.c (.own s ((st.slot s).gen+1)))) (st.bM s (.row e k ((st.slot s).gen+1) (rowsOf k n (cp k n za))))
 | .nE k x none hi=>fun st X=>match st.arg x with
   |some (.w (.c (.own _ _)))=>amU x hi st X
   |_=>Cx (fun st _=>match st.arg x with
    |some (.w (.c (.sl es)))=>match yx st none,qZ st es.length hi with
     |some l,some h=>if l<=h/\h<=es.length/\∀row∈es,row.length=k then some (.w (.c (.sl ((es.take h).drop l)))) else none
     |_,_=>none
    |_=>none) st X
 |op=>match bV op with
  |some (_,ev)=>Cx ev
  |none=>fun _ _=>False
def mk (P:Program)(d:Option Nat)(g:Option (Nat×Bool))(op:dz):AO:=⟨d,g,fun U=>oK P U op,bV op⟩
def dh:Operand->Option aw
 | .tmp t=>some (.t t)
 | .const v=>match v with
  | .slice none 0 0=>some (.k (.c (.sl [])))
  |v=>if yp v then some (.k (.c (.v v))) else none
 |_=>none
theorem cK {x:Operand}{y:aw}(h:dh x=some y):cJ x y:=by
 cases x with
 |tmp t=>simp only[dh,ar] at h;subst h;rfl
 |const v=>
  simp only[dh] at h;split at h
  ·simp only[ar] at h;subst h;rfl
  ·split at h
   ·rename_i hs;simp only[ar] at h;subst h;exact⟨rfl,hs⟩
   ·cases h
 |global g=>cases h
 |func f=>cases h
def yD:Option Operand->Option (Option aw)
 |none=>some none
 |some x=>(dh x).map some
theorem EX {x:Option Operand}{y:Option aw}(h:yD x=some y):Cn x y:=by
 cases x with
 |none=>simp only[yD,ar] at h;subst h;trivial
 |some x=>
  simp only[yD,bz] at h;obtain⟨z,hz,rfl⟩:=h;exact cK hz
def EY:List Operand->Option (List aw)
 |[]=>some []
 |x::l=>match dh x,EY l with
  |some y,some r=>some (y::r)
  |_,_=>none
theorem Jl:∀{xs:List Operand} {ys:List aw},EY xs=some ys->Cs xs ys
 |[],ys,h=>by simp only[EY,ar] at h;subst h;trivial
 |x::xs,ys,h=>by
  unfold EY at h;split at h
  ·rename_i y r h1 h2;simp only[ar] at h;subst h;exact⟨cK h1,Jl h2⟩
  ·cases h
def Cy (pl:Nat->Option (Nat×Nat)):List (Nat×Operand)->Option (List (Nat×Nat×aw))
 |[]=>some []
 |(i,x)::l=>match pl i,dh x,Cy pl l with
  |some (off,size),some y,some r=>some ((off,size,y)::r)
  |_,_,_=>none
theorem Jm {pl:Nat->Option (Nat×Nat)}:∀{xs:List (Nat×Operand)} {ys:List (Nat×Nat×aw)},Cy pl xs=some ys->zU pl xs ys
 |[],ys,h=>by simp only[Cy,ar] at h;subst h;trivial
 |(i,x)::xs,ys,h=>by
  unfold Cy at h;split at h
  ·rename_i off size y r h0 h1 h2;simp only[ar] at h;subst h;exact⟨h0,cK h1,Jm h2⟩
  ·cases h
def sz (P:Program)(t:TypeId):Option Nat:=(P.info? t).map (·.size)
def elemOf (P:Program)(t:TypeId):Option TypeId:=match P.underlying t with
 |some (.slice e)=>some e
 |_=>none
theorem yE {P:Program}{t e:TypeId}(h:elemOf P t=some e):P.underlying t=some (.slice e):=by
 unfold elemOf at h;split at h
 ·rename_i hu;simp only[ar] at h;subst h;exact hu
 ·cases h
def nJ (P:Program)(o:Oper)(op:dz):Prop:=(∀U,kO P U o (oK P U op))/\∀m e,bV op=some (m,e)->gX P m o e
theorem iQ {P:Program}{o:Oper}{op:dz}{m:Bool}{ev:St->List Nat->Option AV}(he:bV op=some (m,ev))(hs:∀U,oK P U op=Cx ev)(h:gX P m o ev):nJ P o op:=
 ⟨fun U=>by rw[hs U];exact XW h,fun m' e' h'=>by rw[he] at h';cases h';exact h⟩
theorem pU {P:Program}{o:Oper}{op:dz}(he:bV op=none)(h:∀U,kO P U o (oK P U op)):nJ P o op:=⟨h,fun m e h'=>by rw[he] at h';cases h'⟩
end Ab
namespace Ab
open Go Go.RowKit
structure aF where
 base:Nat
 owns:List Nat
 Nb:List (Nat×List Nat)
 jf:List (Nat×List Nat)
 eqs:List (Nat×Nat)
 amV:List (Nat×List Nat)
 Nc:List (Nat×List (Nat×Nat×Nat×Nat×Nat))
def Jn (P:Program)(owns:aF)(dst:Option Nat)(ty:TypeId)(x:Operand):Option dz:=match dst with
 |some d=>if owns.owns.contains d then match x with
   | .const (.slice none 0 0)=>match elemOf P ty with
    |some e=>(sz P e).map fun k=> .Ad (owns.base+d) e k
    |none=>none
   |_=>(dh x).map .mv
  else(dh x).map .mv
 |none=>none
def Nf (P:Program)(t:TypeId)(x:Operand):Option dz:=match P.underlying t,dh x with
 |some d,some y=>if d.isRow then(sz P t).map fun n=> .yr n y else some (.sB y)
 |_,_=>none
def amW (owns:aF):Operand->List Nat
 | .tmp i=>(aB owns.jf (1000000+i)).getD []
 |_=>[]
def Ng (P:Program)(owns:aF)(t:TypeId)(x z:Operand):Option dz:=match sz P t,dh x,dh z with
 |some n,some y,some q=>match amW owns x with
  |[]=>some (.store n y q)
  |s::r=>some (.mG (s::r) n y q)
 |_,_,_=>none
def Nh (P:Program)(t:TypeId)(x:Operand)(f:Nat):Option dz:=match P.underlying t,dh x with
 |some (.struct fs),some y=>match fs[f]? with
  |some fd=>match sz P fd.type with
   |some z=>if z≠0 then some (.tT y fd.offset) else none
   |none=>none
  |none=>none
 |_,_=>none
def Ni (P:Program)(t:TypeId)(x z:Operand):Option dz:=match P.underlying t,dh x,dh z with
 |some (.slice e),some y,some q=>match sz P e with
  |some k=>if 0<k then some (.idx k y q) else none
  |none=>none
 |some (.array n e),some y,some q=>(sz P e).map fun k=> .yt n k y q
 |_,_,_=>none
def isStr (P:Program)(t:TypeId):Bool:=match P.underlying t with
 |some .string=>true
 |_=>false
theorem Yv {P:Program}{t:TypeId}(h:isStr P t=true):P.underlying t=some .string:=by
 unfold isStr at h;split at h
 ·assumption
 ·cases h
def Nj (P:Program)(t:TypeId)(x:Operand)(lo hi mx:Option Operand):Option dz:=match isStr P t with
 |true=>match mx,dh x,yD lo,yD hi with
  |none,some y,some mA,some hi'=>some (.Ae y mA hi')
  |_,_,_,_=>none
 |false=>match mx,elemOf P t,dh x,yD lo,yD hi with
  |none,some e,some y,some mA,some hi'=>(sz P e).map fun k=> .nE k y mA hi'
  |_,_,_,_,_=>none
def Yw (P:Program)(t t':TypeId)(x:Operand):Option dz:=match P.underlying t,P.underlying t',dh x with
 |some _,some (.int k),some y=>some (.Af k y)
 |_,_,_=>none
def Yx (owns:aF)(dst:Option Nat):List Nat:=match dst with
 |some d=>(aB owns.amV d).getD []
 |none=>[]
def Nk (P:Program)(owns:aF)(dst:Option Nat)(t:TypeId)(ps:Array (Nat×Operand)):Option dz:=match placesOf P t,zeroOf P t with
 |some pl,some z=>match wM (Yx owns dst) 0 z,Cy pl ps.toList with
  |some za,some qs=>some (.yv za qs)
  |_,_=>none
 |_,_=>none
def Nl (P:Program)(owns:aF)(dst:Option Nat)(t:TypeId)(n:Nat)(ps:Array (Nat×Operand)):Option dz:=match elemOf P t with
 |some e=>match sz P e,zeroOf P e with
  |some k,some z=>match yy z,Cy (fun i=>some (i*k,k)) ps.toList with
   |some za,some qs=>if 0<k/\z.length=k/\n*k<=16777216 then match dst with
     |some d=>if owns.owns.contains d then some (.tX (owns.base+d) e k n za qs) else some (.pT k n za qs)
     |none=>none
    else none
   |_,_=>none
  |_,_=>none
 |none=>none
def Nm:Operand->Operand->Bool
 | .tmp a,.tmp b=>a==b
 | .const (.int .i64 n),.const (.int .i64 m)=>n==m
 |_,_=>false
theorem amX {x y:Operand}(h:Nm x y=true):x=y:=by
 unfold Nm at h;split at h
 ·simp at h;rw[h]
 ·simp at h;rw[h]
 ·cases h
def Nn (P:Program)(owns:aF)(dst:Option Nat)(t:TypeId)(x:Operand):Option dz:=match elemOf P t,dh x with
 |some e,some q=>match P.info? e with
  |some it=>match it.zero with
   |some zv=>if zv.cells.size=it.size/\0<it.size/\it.bytes<=1000 then match yy zv.cells.toList,dst with
    |some za,some d=>if owns.owns.contains d then some (.Ah (owns.base+d) e it.size za q) else some (.yC it.size za q)
    |_,_=>none else none
   |none=>none
  |none=>none
 |_,_=>none
def Np (P:Program)(x z:Operand)(t t':TypeId):Option dz:=if t=t' then match elemOf P t,dh x,dh z with
 |some e,some y,some q=>match P.info? e with
  |some it=>match it.zero with
   |some zv=>if zv.cells.size=it.size/\0<it.size/\it.bytes<=1000 then some (.app e it.size y q) else none
   |none=>none
  |none=>none
 |_,_,_=>none
 else none
def amY (owns:aF)(dst:Option Nat)(f:FuncId):Option (List Nat):=match dst with
 |some d=>match aB owns.Nb (1000000+d) with
  |some D=>some D
  |none=>aB owns.Nb f
 |none=>aB owns.Nb f
def Nq (P:Program)(owns:aF)(dst:Option Nat)(c:Call):Option dz:=match c.callee with
 | .value (.func f)=>match P.funcs[f]? with
  |some fn=>if(fn.name== "runtime.NumGoroutine")=false/\fn.body.isNone=false then(EY c.args.toList).map fun ys=>match amY owns dst f with
    |some []=> .call f ys
    |some D=> .kR f ys D
    |none=> .call f ys
   else none
  |none=>none
 | .builtin .len=>match c.args.toList,c.argTypes.toList with
  |[x],[t]=>match isStr P t with
   |true=>(dh x).map .wP
   |false=>match elemOf P t,dh x with
    |some _,some y=>some (.len y)
    |_,_=>none
  |_,_=>none
 | .builtin .append=>match c.args.toList,c.argTypes.toList with
  |[x,z],[t,t']=>Np P x z t t'
  |_,_=>none
 | .builtin .max=>match c.args.toList with
  |[x,z]=>match dh x,dh z with
   |some y,some q=>some (.mm true y q)
   |_,_=>none
  |[x,z,t]=>match dh x,dh z,dh t with
   |some y,some q,some r=>some (.Ag y q r)
   |_,_,_=>none
  |_=>none
 | .builtin .min=>match c.args.toList with
  |[x,z]=>match dh x,dh z with
   |some y,some q=>some (.mm false y q)
   |_,_=>none
  |_=>none
 |_=>none
def Jo (P:Program)(owns:aF)(o:Oper):Option dz:=match o.op with
 | .move x=>Jn P owns o.dst o.type x
 | .assign x=>Jn P owns o.dst o.type x
 | .binOp op t x y _=>match dh x,dh y with
  |some a,some b=>match op,aB owns.eqs t with
   | .eql,some n=>some (.eqs false n a b)
   | .neq,some n=>some (.eqs true n a b)
   |_,_=>some (.bin op a b)
  |_,_=>none
 | .unOp op _ x=>(dh x).map fun y=> .un op y
 | .pick c x y=>match dh c,dh x,dh y with
  |some a,some b,some d=>some (.pick a b d)
  |_,_,_=>none
 | .load t x=>Nf P t x
 | .store t x z=>Ng P owns t x z
 | .fieldAddr t x f=>Nh P t x f
 | .indexAddr t x z=>Ni P t x z
 | .slice t x lo hi mx=>Nj P t x lo hi mx
 | .extract x i=>(dh x).map fun y=> .ext y i
 | .index t x z=>match P.underlying t,dh x,dh z with
  |some .string,some y,some q=>some (.yu y q)
  |_,_,_=>none
 | .build t ps=>Nk P owns o.dst t ps
 | .buildSlice t n ps=>Nl P owns o.dst t n ps
 | .box _ x=>match o.dst,dh x with
  |some d,some y=>some (.box (owns.base+d) y)
  |_,_=>none
 | .alloc t=>match o.dst,zeroOf P t with
  |some d,some z=>(wM (Yx owns (some d)) 0 z).map fun za=> .alloc (owns.base+d) za
  |_,_=>none
 | .call c=>Nq P owns o.dst c
 | .makeSlice t x y=>if Nm x y=true then Nn P owns o.dst t x else none
 | .convert t t' x=>Yw P t t' x
 | .nilCheck x=>(dh x).map .wQ
 |_=>none
section
variable {P:Program} {owns:aF} {o:Oper} {op:dz}
theorem Yy {x:Operand}(ho:o.op=.move x\/o.op=.assign x)(h:Jn P owns o.dst o.type x=some op):nJ P o op:=by
 have mv:(dh x).map dz.mv=some op->nJ P o op:=fun h=>by
  rw[bz] at h;obtain⟨y,hy,rfl⟩:=h;exact iQ rfl (fun _=>rfl) (alK ho (cK hy))
 unfold Jn at h;split at h
 case h_2=>cases h
 split at h
 ·split at h
  ·split at h
   case h_2=>cases h
   rw[bz] at h;obtain⟨k,hk,rfl⟩:=h;exact pU rfl (fun U=>amk (Or.symm ho))
  ·exact mv h
 ·exact mv h
theorem amZ {t:TypeId}{x:Operand}(ho:o.op=.load t x)(h:Nf P t x=some op):nJ P o op:=by
 unfold Nf at h;split at h
 case h_2=>cases h
 rename_i d y hd hy;split at h
 ·rename_i hr;rw[bz] at h;obtain⟨n,hn,rfl⟩:=h;exact iQ rfl (fun _=>rfl) (alP ho hd hr hn (cK hy))
 ·rename_i hr;simp only[ar] at h;subst h;exact iQ rfl (fun _=>rfl) (alO ho hd (by simpa using hr) (cK hy))
theorem ana {t:TypeId}{x z:Operand}(ho:o.op=.store t x z)(h:Ng P owns t x z=some op):nJ P o op:=by
 unfold Ng at h;split at h
 case h_2=>cases h
 rename_i n y q hn hy hq;split at h
 ·simp only[ar] at h;subst h;exact pU rfl (fun U=>XY ho hn (cK hy) (cK hq))
 ·simp only[ar] at h;subst h;exact pU rfl (fun U=>amx _ (XY ho hn (cK hy) (cK hq)))
theorem anb {t:TypeId}{x:Operand}{f:Nat}(ho:o.op=.fieldAddr t x f)(h:Nh P t x f=some op):nJ P o op:=by
 unfold Nh at h;split at h
 case h_2=>cases h
 rename_i fs y hu hy;split at h
 case h_2=>cases h
 rename_i fd hf;split at h
 case h_2=>cases h
 rename_i z hz;split at h
 case isFalse=>cases h
 rename_i jn;simp only[ar] at h;subst h;exact iQ rfl (fun _=>rfl) (alQ ho hu hf hz jn (cK hy))
theorem anc {t:TypeId}{x z:Operand}(ho:o.op=.indexAddr t x z)(h:Ni P t x z=some op):nJ P o op:=by
 unfold Ni at h;split at h
 ·rename_i e y q hu hy hq;split at h
  case h_2=>cases h
  rename_i k hk;split at h
  case isFalse=>cases h
  rename_i bF;simp only[ar] at h;subst h;exact iQ rfl (fun _=>rfl) (alR ho hu hk bF (cK hy) (cK hq))
 ·rename_i n e y q hu hy hq;rw[bz] at h;obtain⟨k,hk,rfl⟩:=h;exact iQ rfl (fun _=>rfl) (alT ho hu hk (cK hy) (cK hq))
 ·cases h
theorem ane {t:TypeId}{x:Operand}{lo hi mx:Option Operand}(ho:o.op=.slice t x lo hi mx)(h:Nj P t x lo hi mx=some op):nJ P o op:=by
 unfold Nj at h;split at h
 case h_1=>
  rename_i hst;split at h
  ·rename_i y mA hi' hy kL fP;simp only[ar] at h;subst h;exact iQ rfl (fun _=>rfl) (amO ho (Yv hst) (cK hy) (EX kL) (EX fP))
  ·cases h
 split at h
 case h_2=>cases h
 rename_i e y mA hi' he hy kL fP;rw[bz] at h;obtain⟨k,hk,rfl⟩:=h;have oI:=alX ho (yE he) hk (cK hy) (EX kL) (EX fP)
 cases mA with
 |some p=>exact iQ rfl (fun _=>rfl) oI
 |none=>
  cases lo with
  |some p=>simp[yD] at kL
  |none=>
   refine⟨fun U=> ?_,fun m e' h'=>by cases h';exact oI⟩;intro N F M w0 w st G H a X hR hs K Q hK;simp only[oK] at hs;split at hs
   ·exact amo (hi':=hi') ho (yE he) hk (cK hy) (EX fP) N F M w0 w st G H a X hR hs K Q hK
   ·exact XW oI N F M w0 w st G H a X hR hs K Q hK
theorem anf {t:TypeId}{ps:Array (Nat×Operand)}(ho:o.op=.build t ps)(h:Nk P owns o.dst t ps=some op):nJ P o op:=by
 unfold Nk at h;split at h
 case h_2=>cases h
 rename_i pl z fF hz;split at h
 case h_2=>cases h
 rename_i za qs wR rR;simp only[ar] at h;subst h;exact iQ rfl (fun _=>rfl) (amb ho fF hz wR (Jm rR))
theorem ang {t:TypeId}{n:Nat}{ps:Array (Nat×Operand)}(ho:o.op=.buildSlice t n ps)(h:Nl P owns o.dst t n ps=some op):nJ P o op:=by
 unfold Nl at h;split at h
 case h_2=>cases h
 rename_i e he;split at h
 case h_2=>cases h
 rename_i k z hk hz;split at h
 case h_2=>cases h
 rename_i za qs wR rR;split at h
 case isFalse=>cases h
 rename_i hc;obtain⟨h1,h2,h3⟩:=hc;split at h
 case h_2=>cases h
 split at h
 ·simp only[ar] at h;subst h;exact pU rfl (fun U=>amj ho (yE he) hk h1 h2 h3 hz wR (Jm rR))
 ·simp only[ar] at h;subst h;exact pU rfl (fun U=>ami ho (yE he) hk h1 h2 h3 hz wR (Jm rR))
theorem Yz {α:Type}{xs:Array α}{x:α}(h:xs.toList=[x]):xs=#[x]:=Array.ext' h
theorem Jp {α:Type}{xs:Array α}{x y:α}(h:xs.toList=[x,y]):xs=#[x,y]:=Array.ext' h
theorem anh {α:Type}{xs:Array α}{x y z:α}(h:xs.toList=[x,y,z]):xs=#[x,y,z]:=Array.ext' h
theorem ani {x:Operand}{t:TypeId}(ho:o.op=.makeSlice t x x){dst:Option Nat}(h:Nn P owns dst t x=some op):nJ P o op:=by
 unfold Nn at h;split at h
 case h_2=>cases h
 rename_i e q he hq;split at h
 case h_2=>cases h
 rename_i it hit;split at h
 case h_2=>cases h
 rename_i zv hz;split at h
 case isFalse=>cases h
 rename_i hc;split at h
 case h_2=>cases h
 rename_i za d wR;split at h
 ·simp only[ar] at h;subst h;exact pU rfl (fun U=>amS ho (yE he) hit hz rfl hc.2.1 hc.1 hc.2.2 wR (cK hq))
 ·simp only[ar] at h;subst h;exact pU rfl (fun U=>amB ho (yE he) hit hz rfl hc.2.1 hc.1 hc.2.2 wR (cK hq))
theorem anj {x z:Operand}{t t':TypeId}(ho:o.op=.call { callee:=.builtin .append,args:=#[x,z],argTypes:=#[t,t'] })(h:Np P x z t t'=some op):nJ P o op:=by
 unfold Np at h;split at h
 case isFalse=>cases h
 rename_i ht;subst ht;split at h
 case h_2=>cases h
 rename_i e y q he hy hq;split at h
 case h_2=>cases h
 rename_i it hi;split at h
 case h_2=>cases h
 rename_i zv MS;split at h
 case isFalse=>cases h
 rename_i hc;obtain⟨h1,h2,h3⟩:=hc;simp only[ar] at h;subst h;exact pU rfl (fun U=>aml (bytes:=it.bytes) (zv:=zv) ho (yE he) (by rw[hi];simp[MS]) h1 h2 h3 (cK hy) (cK hq))
theorem ank {c:Call}(ho:o.op=.call c){dst:Option Nat}(h:Nq P owns dst c=some op):nJ P o op:=by
 obtain⟨callee,args,ts⟩:=c;unfold Nq at h;dsimp only at h;split at h
 ·rename_i f;split at h
  case h_2=>cases h
  rename_i fn hf;split at h
  case isFalse=>cases h
  rename_i hc;rw[bz] at h;obtain⟨ys,hy,he⟩:=h;split at he
  ·subst he;exact pU rfl (fun U=>Yh ho hf hc.1 hc.2 (Jl hy))
  ·subst he;exact pU rfl (fun U=>amq ho hf hc.1 hc.2 (Jl hy))
  ·subst he;exact pU rfl (fun U=>Yh ho hf hc.1 hc.2 (Jl hy))
 ·split at h
  case h_2=>cases h
  rename_i x t hx ht;rw[Yz hx,Yz ht] at ho;split at h
  case h_1=>
   rename_i hst;rw[bz] at h;obtain⟨y,hy,rfl⟩:=h;exact iQ rfl (fun _=>rfl) (amM ho (Yv hst) (cK hy))
  split at h
  case h_2=>cases h
  rename_i e y he hy;simp only[ar] at h;subst h;exact iQ rfl (fun _=>rfl) (amT ho (yE he) (cK hy))
 ·split at h
  case h_2=>cases h
  rename_i x z t t' hx ht;rw[Jp hx,Jp ht] at ho;exact anj ho h
 ·split at h
  ·rename_i x z hx;split at h
   case h_2=>cases h
   rename_i y q hy hq;simp only[ar] at h;subst h;rw[Jp hx] at ho;exact iQ rfl (fun _=>rfl) (XS (mx:=true) ho (cK hy) (cK hq))
  ·rename_i x z t hx;split at h
   case h_2=>cases h
   rename_i y q r hy hq hr;simp only[ar] at h;subst h;rw[anh hx] at ho;exact iQ rfl (fun _=>rfl) (amQ ho (cK hy) (cK hq) (cK hr))
  ·cases h
 ·split at h
  case h_2=>cases h
  rename_i x z hx;split at h
  case h_2=>cases h
  rename_i y q hy hq;simp only[ar] at h;subst h;rw[Jp hx] at ho;exact iQ rfl (fun _=>rfl) (XS (mx:=false) ho (cK hy) (cK hq))
 ·cases h
theorem Nr {α:Type}:∀{T:List (Nat×α)} {s:Nat} {x:α},aB T s=some x->(s,x)∈T
 |[],s,x,h=>by simp[aB] at h
 |(i,y)::T,s,x,h=>by
  simp only[aB] at h;split at h
  ·rename_i hi;simp only[ar] at h;subst hi;subst h;exact xz
  ·exact zm _ (Nr h)
theorem anl (hE:∀p∈owns.eqs,nI P p.1 p.2)(h:Jo P owns o=some op):nJ P o op:=by
 unfold Jo at h;split at h
 ·rename_i x ho;exact Yy (.inl ho) h
 ·rename_i x ho;exact Yy (.inr ho) h
 ·rename_i EZ t x y t' ho;split at h
  ·rename_i p q hp hq;split at h
   ·rename_i n hn;simp only[ar] at h;subst h;exact iQ rfl (fun _=>rfl) (Yu (neg:=false) ho (hE _ (Nr hn)) (cK hp) (cK hq))
   ·rename_i n hn;simp only[ar] at h;subst h;exact iQ rfl (fun _=>rfl) (Yu (neg:=true) ho (hE _ (Nr hn)) (cK hp) (cK hq))
   ·simp only[ar] at h;subst h;exact iQ rfl (fun _=>rfl) (alL ho (cK hp) (cK hq))
  ·cases h
 ·rename_i Fa t x ho;rw[bz] at h;obtain⟨y,hy,rfl⟩:=h;exact iQ rfl (fun _=>rfl) (alM ho (cK hy))
 ·rename_i c x y ho;split at h
  ·rename_i p q r hp hq hr;simp only[ar] at h;subst h;exact iQ rfl (fun _=>rfl) (alN ho (cK hp) (cK hq) (cK hr))
  ·cases h
 ·rename_i t x ho;exact amZ ho h
 ·rename_i t x z ho;exact ana ho h
 ·rename_i t x f ho;exact anb ho h
 ·rename_i t x z ho;exact anc ho h
 ·rename_i t x lo hi mx ho;exact ane ho h
 ·rename_i x i ho;rw[bz] at h;obtain⟨y,hy,rfl⟩:=h;exact iQ rfl (fun _=>rfl) (alU ho (cK hy))
 ·rename_i t x z ho;split at h
  ·rename_i y q hu hy hq;simp only[ar] at h;subst h;exact iQ rfl (fun _=>rfl) (alV ho hu (cK hy) (cK hq))
  ·cases h
 ·rename_i t ps ho;exact anf ho h
 ·rename_i t n ps ho;exact ang ho h
 ·rename_i t x ho;split at h
  ·rename_i d y hd hy;simp only[ar] at h;subst h;exact pU rfl (fun U=>amg ho (cK hy))
  ·cases h
 ·rename_i t ho;split at h
  ·rename_i d z hd hz;rw[bz] at h;obtain⟨za,wR,rfl⟩:=h;exact pU rfl (fun U=>amh ho hz wR)
  ·cases h
 ·rename_i c ho;exact ank ho h
 ·rename_i t x y ho;split at h
  ·rename_i eV;obtain rfl:=amX eV;exact ani ho h
  ·cases h
 ·rename_i t t' x ho;unfold Yw at h;split at h
  ·rename_i d k y hd hk hy;simp only[ar] at h;subst h;exact iQ rfl (fun _=>rfl) (amP ho (by rw[hd];rfl) hk (cK hy))
  ·cases h
 ·rename_i x ho;rw[bz] at h;obtain⟨y,hy,rfl⟩:=h;exact iQ rfl (fun _=>rfl) (amR ho (cK hy))
 ·cases h
end
end Ab
namespace Ab
open Go Go.RowKit
structure BO where
 d:Option Nat
 g:Option (Nat×Bool)
 op:dz
inductive aA where
 |skip
 |ret
 |exit (id:Nat)
 |seq (x y:aA)
 |cond (t:aw) (x y:aA)
 |block (id:Nat) (c:aA)
 |loop (c:aA)
 |region (l:List BO)
 |oJ (l:List BO) (n:Nat) (t:OT) (U:List Nat)
 |jf (s:Nat) (c:aA)
 |lM (b off s e k:Nat) (c:aA)
def BO.ao (P:Program)(b:BO):AO:=Ab.mk P b.d b.g b.op
def lift (P:Program):aA->lL
 | .skip=> .skip
 | .ret=> .ret
 | .exit id=> .exit id
 | .seq x y=> .seq (lift P x) (lift P y)
 | .cond t x y=> .cond t (lift P x) (lift P y)
 | .block id c=> .block id (lift P c)
 | .loop c=> .loop (lift P c)
 | .region l=> .region (l.map (BO.ao P))
 | .oJ l n t U=> .oJ (l.map (BO.ao P)) n t U
 | .jf s c=> .jf s (lift P c)
 | .lM b off s e k c=> .lM b off s e k (lift P c)
def Fb:List Nat->aA->aA
 |[],b=>b
 |s::r,b=> .jf s (Fb r b)
def Fc:List (Nat×Nat×Nat×Nat×Nat)->aA->aA
 |[],b=>b
 |(q,off,s,e,k)::r,b=> .lM q off s e k (Fc r b)
def YA (N:Nat):Option Nat->Bool
 |some d=>decide (d<N)
 |none=>true
def Fe (P:Program)(owns:aF)(N:Nat)(ops:Array Oper)(o:Oper):Option BO:=match Jo P owns o with
 |none=>none
 |some op=>if YA N o.dst=true then match o.guard with
   |none=>some ⟨o.dst,none,op⟩
   |some (j,want)=>match(ops[j]?).bind (·.dst) with
    |some t=>some ⟨o.dst,some (t,want),op⟩
    |none=>none
  else none
def yF (P:Program)(owns:aF)(N:Nat)(ops:Array Oper):List Oper->Option (List BO)
 |[]=>some []
 |o::r=>match Fe P owns N ops o,yF P owns N ops r with
  |some b,some q=>some (b::q)
  |_,_=>none
abbrev aI:=List (Nat×Nat×OT×List Nat)
def Ns:aI->Nat->Option (Nat×OT×List Nat)
 |[],_=>none
 |(i,x)::l,j=>if i=j then some x else Ns l j
def aD (P:Program)(owns:aF)(N:Nat)(ts:aI):Code->Option aA
 | .skip=>some .skip
 | .ret=>some .ret
 | .exit id=>some (.exit id)
 | .seq x y=>match aD P owns N ts x,aD P owns N ts y with
  |some a,some b=>some (.seq a b)
  |_,_=>none
 | .cond t x y=>match dh t,aD P owns N ts x,aD P owns N ts y with
  |some t,some a,some b=>some (.cond t a b)
  |_,_,_=>none
 | .block id c=>(aD P owns N ts c).map (.block id)
 | .loop c=>(aD P owns N ts c).map .loop
 | .region id ops d=>match yF P owns N ops ops.toList with
  |some l=>match d with
   |false=>some (Fb ((aB owns.jf id).getD []) (Fc ((aB owns.Nc id).getD []) (.region l)))
   |true=>match Ns ts id with
    |some (n,t,U)=>if P.follows .mixedOrders=true/\(Region.noSelect ops && mU .any ops n && lu .any ops n t n (Array.replicate ops.size false))=true then some (Fb ((aB owns.jf id).getD []) (Fc ((aB owns.Nc id).getD []) (.oJ l n t U))) else none
    |none=>none
  |none=>none
 |_=>none
section
variable {P:Program} {owns:aF} {N:Nat} {ops:Array Oper} {ts:aI}
theorem anm (hE:∀p∈owns.eqs,nI P p.1 p.2){o:Oper}{b:BO}(h:Fe P owns N ops o=some b):Ct P N ops o (b.ao P):=by
 unfold Fe at h;split at h
 ·cases h
 rename_i op hop;have hk:=anl hE hop;split at h
 case isFalse=>cases h
 rename_i hd
 have hlt:∀d,o.dst=some d->d<N:=fun d e=>by rw[e] at hd;simpa [YA] using hd
 split at h
 ·rename_i hg;simp only[ar] at h;subst h;exact⟨hk.1,rfl,hlt,by rw[hg];trivial,hk.2⟩
 ·rename_i j want hg;split at h
  ·rename_i t ht;simp only[ar] at h;subst h;exact⟨hk.1,rfl,hlt,by rw[hg];exact⟨rfl,ht⟩,hk.2⟩
  ·cases h
theorem Nt (hE:∀p∈owns.eqs,nI P p.1 p.2):∀{os:List Oper} {l:List BO},yF P owns N ops os=some l->nH P N ops os (l.map (BO.ao P))
 |[],l,h=>by
  simp only[yF,ar] at h;subst h;exact .nil
 |o::os,l,h=>by
  unfold yF at h;split at h
  ·rename_i b q h1 h2;simp only[ar] at h;subst h;exact .cons (anm hE h1) (Nt hE h2)
  ·cases h
theorem Nu {c:Code}:∀(l:List Nat) {b:aA},fR P N c (lift P b)->fR P N c (lift P (Fb l b))
 |[],_,h=>h
 |s::r,_,h=> .jf s (Nu r h)
theorem Nv {c:Code}:∀(l:List (Nat×Nat×Nat×Nat×Nat)) {b:aA},fR P N c (lift P b)->fR P N c (lift P (Fc l b))
 |[],_,h=>h
 |(q,off,s,e,k)::r,_,h=> .lM q off s e k (Nv r h)
theorem YB (hE:∀p∈owns.eqs,nI P p.1 p.2):∀{c:Code} {b:aA},aD P owns N ts c=some b->fR P N c (lift P b):=by
 intro c
 induction c with
 |skip=>intro b h;simp only[aD,ar] at h;subst h;exact .skip
 |ret=>intro b h;simp only[aD,ar] at h;subst h;exact .ret
 |exit id=>intro b h;simp only[aD,ar] at h;subst h;exact .exit id
 |seq x y sF sG=>
  intro b h;unfold aD at h;split at h
  ·rename_i p q h1 h2;simp only[ar] at h;subst h;exact .seq (sF h1) (sG h2)
  ·cases h
 |cond t x y sF sG=>
  intro b h;unfold aD at h;split at h
  ·rename_i t' p q h0 h1 h2;simp only[ar] at h;subst h;exact .cond (cK h0) (sF h1) (sG h2)
  ·cases h
 |block id c ih=>
  intro b h;simp only[aD,bz] at h;obtain⟨p,hp,rfl⟩:=h;exact .block id (ih hp)
 |loop c ih=>
  intro b h;simp only[aD,bz] at h;obtain⟨p,hp,rfl⟩:=h;exact .loop (ih hp)
 |region id ops d=>
  intro b h;unfold aD at h;split at h
  ·rename_i l hl;split at h
   ·simp only[ar] at h;subst h;exact Nu _ (Nv _ (.region id (Nt hE hl)))
   ·split at h
    ·rename_i n t U ht;split at h
     ·rename_i hc;simp only[ar] at h;subst h;exact Nu _ (Nv _ (fR.oJ (l:=ops.toList) id n t U (Nt hE hl) hc.1 hc.2))
     ·cases h
    ·cases h
  ·cases h
 |_=>intro b h;simp[aD] at h
def uV:List Nat->List (Nat×AV)
 |[]=>[]
 |i::l=>(i,.u)::uV l
def V0:List AW->Nat->List Nat->List (Nat×AV)
 |[],_,vs=>uV vs
 |a::r,k,vs=>(k,.w a)::V0 r (k+1) vs
def S0:List Nat->List (Nat×Slot)
 |[]=>[]
 |i::l=>(i,.dead 0)::S0 l
theorem Nw:∀{vs:List Nat} {i:Nat} {x:AV},aB (uV vs) i=some x->x=.u
 |[],i,x,h=>by simp[uV,aB] at h
 |v::vs,i,x,h=>by
  simp only[uV,aB] at h;split at h
  ·simp only[ar] at h;exact h.symm
  ·exact Nw h
theorem YC:∀{args:List AW} {k:Nat} {vs:List Nat} {i:Nat} {x:AV},aB (V0 args k vs) i=some x->x=.u\/∃j y,i=k+j/\args[j]? =some y/\x=.w y
 |[],k,vs,i,x,h=> .inl (Nw h)
 |a::r,k,vs,i,x,h=>by
  simp only[V0,aB] at h;split at h
  ·rename_i hk;simp only[ar] at h;exact .inr ⟨0,a,hk.symm,rfl,h.symm⟩
  ·rcases YC h with h1|⟨j,y,h1,h2,h3⟩
   ·exact .inl h1
   ·exact .inr ⟨j+1,y,aa,by simpa using h2,h3⟩
theorem YD:∀(ss:List Nat) (s:Nat),(aB (S0 ss) s).getD (.dead 0)=.dead 0
 |[],s=>rfl
 |v::vs,s=>by
  simp only[S0,aB];split
  ·rfl
  ·exact YD vs s
theorem ann (hE:∀p∈owns.eqs,nI P p.1 p.2){f:FuncId}{fn:Func}{c:Code}{b:aA}(hf:P.funcs[f]? =some fn)(hb:fn.body=some c)(ht:aD P owns fn.ntmps ts c=some b)(args:List AW)(Aa:args.length<=fn.ntmps)(vs ss:List Nat){Q:AV->Prop}
  (h:aC (lift P b) (fun e st=>(match e with | .exit _=>False|_=>True)/\∃xs,sH P st fn.results.toList=some xs/\Q (cZ xs)) ⟨V0 args 0 vs,[],S0 ss⟩):bt P f args Q:=
 amF hf hb (YB hE ht) args Aa _ _ (fun i x hx=>by
  rcases YC hx with h1|⟨j,y,h1,h2,h3⟩
  ·exact .inl h1
  ·rw[fK] at h1;subst h1;exact .inr ⟨y,h2,h3⟩) (YD ss) h
end
end Ab
namespace Ab
open Go Go.RowKit
def St.dR (st:St)(d:Option Nat)(x:AV):St:=match d with
 |some d=>st.put d x
 |none=>st
def oL (U:Option (List Nat))(s:Nat):Bool:=match U with
 |none=>true
 |some l=>l.contains s
def YE (U:Option (List Nat)):Option Nat->Bool
 |none=>true
 |some s=>oL U s
theorem Jq {U:Option (List Nat)}{s:Nat}(h:oL U s=true):sy U s:=by
 cases U with
 |none=>trivial
 |some l=>simpa [oL,sy] using h
def cS (U:Option (List Nat))(st:St):dz->Option (AV×St)
 | .Ad s e k=>if(aB st.S s).isSome=true then some (.w (.c (.own s ((st.slot s).gen+1))),st.bM s (.row e k ((st.slot s).gen+1) [])) else none
 | .box s x=>match st.arg x with
  |some (.w xw)=>if(aB st.S s).isSome=true then some (.pb s ((st.slot s).gen+1) 0,st.bM s (.box ((st.slot s).gen+1) xw.cells)) else none
  |_=>none
 | .alloc s za=>if(aB st.S s).isSome=true then some (.pb s ((st.slot s).gen+1) 0,st.bM s (.box ((st.slot s).gen+1) za)) else none
 | .pT k n za qs=>match mB st qs with
  |some pr=>match jQ (cp k n za) pr with
   |some cs=>if cs.all inl=true then some (.w (.c (.sl (rowsOf k n cs))),st) else none
   |none=>none
  |none=>none
 | .tX s e k n za qs=>match mB st qs with
  |some pr=>match jQ (cp k n za) pr with
   |some cs=>if cs.all inl=true/\(aB st.S s).isSome=true then some (.w (.c (.own s ((st.slot s).gen+1))),st.bM s (.row e k ((st.slot s).gen+1) (rowsOf k n cs))) else none
   |none=>none
  |none=>none
 | .app e k x y=>match st.arg x with
  |some (.w (.c (.own s g)))=>match aB st.S s with
   |some (.row e' k' g' es)=>match st.rows [s] (st.arg y) with
    |some ys=>if(e=e'/\k=k'/\g=g')/\(∀row∈ys,row.length=k)/\es.length+ys.length<=100000000/\oL U s=true then some (.w (.c (.own s (g+1))),st.bM s (.row e k (g+1) (es++ys))) else none
    |none=>none
   |_=>none
  |_=>none
 | .store n p x=>match st.arg x with
  |some (.w xw)=>match st.store xw.cells (st.arg p) with
   |some st'=>if xw.cells.length=n/\YE U (EO (st.arg p))=true then some (.u,st') else none
   |none=>none
  |_=>none
 | .yC k za x=>match st.sc x with
  |some (.int .i64 n)=>if 0<=n/\n<=1000000/\(cp k n.toNat za).all inl=true then some (.w (.c (.sl (rowsOf k n.toNat (cp k n.toNat za)))),st) else none
  |_=>none
 | .Ah s e k za x=>match st.sc x with
  |some (.int .i64 n)=>if 0<=n/\n<=1000000/\(cp k n.toNat za).all inl=true/\(aB st.S s).isSome=true then some (.w (.c (.own s ((st.slot s).gen+1))),st.bM s (.row e k ((st.slot s).gen+1) (rowsOf k n.toNat (cp k n.toNat za)))) else none
  |_=>none
 | .nE k x none hi=>match st.arg x with
  |some (.w (.c (.own s g)))=>match aB st.S s with
   |some (.row e k' g' es)=>match qZ st es.length hi with
    |some h=>if g=g'/\h<=es.length then some (.w (.c (.own s (g+1))),st.bM s (.row e k' (g+1) (es.take h))) else none
    |none=>none
   |_=>none
  |_=>match bV (.nE k x none hi) with
   |some (_,ev)=>(ev st []).map fun x=>(x,st)
   |none=>none
 | .call _ _=>none
 | .kR _ _ _=>none
 | .mG _ _ _ _=>none
 |op=>match bV op with
  |some (_,ev)=>(ev st []).map fun x=>(x,st)
  |none=>none
section
variable {P:Program}
theorem Nx {U:Option (List Nat)}{st st':St}{op:dz}{x:AV}(h:cS U st op=some (x,st')){X:AV->St->Prop}(hX:X x st'):oK P U op st X:=by
 have rd:∀(ev:St->List Nat->Option AV),((ev st []).map fun x=>(x,st))=some (x,st')->Cx ev st X:=fun ev h=>by
  rw[bz] at h;obtain⟨y,hy,he⟩:=h;cases he;exact⟨x,hy,hX⟩
 cases op with
 |Ad s e k=>
  simp only[cS] at h;split at h
  ·rename_i hs;simp only[ar,gR] at h;obtain⟨rfl,rfl⟩:=h;exact⟨hs,hX⟩
  ·cases h
 |box s y=>
  simp only[cS] at h;split at h
  ·rename_i xw hy;split at h
   ·rename_i hs;simp only[ar,gR] at h;obtain⟨rfl,rfl⟩:=h;exact⟨xw,hy,hs,hX⟩
   ·cases h
  ·cases h
 |alloc s za=>
  simp only[cS] at h;split at h
  ·rename_i hs;simp only[ar,gR] at h;obtain⟨rfl,rfl⟩:=h;exact⟨hs,hX⟩
  ·cases h
 |yC k za y=>
  simp only[cS] at h;split at h
  ·rename_i n hn;split at h
   ·rename_i hc;simp only[ar,gR] at h;obtain⟨rfl,rfl⟩:=h;exact⟨n.toNat,by rw[hn,Int.toNat_of_nonneg hc.1],aa,hc.2.2,hX⟩
   ·cases h
  ·cases h
 |Ah s e k za y=>
  simp only[cS] at h;split at h
  ·rename_i n hn;split at h
   ·rename_i hc;simp only[ar,gR] at h;obtain⟨rfl,rfl⟩:=h;exact⟨n.toNat,by rw[hn,Int.toNat_of_nonneg hc.1],aa,hc.2.2.1,hc.2.2.2,hX⟩
   ·cases h
  ·cases h
 |pT k n za qs=>
  simp only[cS] at h;split at h
  ·rename_i pr Ny;split at h
   ·rename_i cs hcs;split at h
    ·rename_i hi;simp only[ar,gR] at h;obtain⟨rfl,rfl⟩:=h;exact⟨pr,cs,Ny,hcs,hi,hX⟩
    ·cases h
   ·cases h
  ·cases h
 |tX s e k n za qs=>
  simp only[cS] at h;split at h
  ·rename_i pr Ny;split at h
   ·rename_i cs hcs;split at h
    ·rename_i hi;simp only[ar,gR] at h;obtain⟨rfl,rfl⟩:=h;exact⟨pr,cs,Ny,hcs,hi.1,hi.2,hX⟩
    ·cases h
   ·cases h
  ·cases h
 |app e k y z=>
  simp only[cS] at h;split at h
  ·rename_i s g hy;split at h
   ·rename_i e' k' g' es hs;split at h
    ·rename_i ys hys;split at h
     ·rename_i hc;obtain⟨⟨rfl,rfl,rfl⟩,h2,h3,h4⟩:=hc;simp only[ar,gR] at h;obtain⟨rfl,rfl⟩:=h;exact⟨s,g,es,ys,hy,hs,hys,h2,h3,Jq h4,hX⟩
     ·cases h
    ·cases h
   ·cases h
  ·cases h
 |store n p y=>
  simp only[cS] at h;split at h
  ·rename_i xw hy;split at h
   ·rename_i dP hst;split at h
    ·rename_i hc;simp only[ar,gR] at h;obtain⟨rfl,rfl⟩:=h;exact⟨xw,_,hy,hc.1,hst,fun s hs=>by have:=hc.2;rw[hs] at this;exact Jq this,hX⟩
    ·cases h
   ·cases h
  ·cases h
 |nE k y lo hi=>
  cases lo with
  |none=>
   simp only[cS] at h;simp only[oK];split at h
   ·rename_i s g hy
    try rw[hy]
    split at h
    ·rename_i e k' g' es hs;split at h
     ·rename_i hh fP;split at h
      ·rename_i hc;obtain⟨rfl,h2⟩:=hc;simp only[ar,gR] at h;obtain⟨rfl,rfl⟩:=h;exact⟨s,g,e,k',es,hh,hy,hs,fP,h2,hX⟩
      ·cases h
     ·cases h
    ·cases h
   ·rename_i hne;have h2:=rd ((bV (.nE k y none hi)).get rfl).2 h
    first
    |exact h2
    |(split
      ·rename_i s g hy;exact absurd hy (hne s g)
      ·exact h2)
  |some lo=>exact rd ((bV (.nE k y (some lo) hi)).get rfl).2 h
 |call f ys=>simp[cS] at h
 |kR f ys D=>simp[cS] at h
 |mG D n p y=>simp[cS] at h
 |mv y=>exact rd ((bV (.mv y)).get rfl).2 h
 |bin EZ y z=>exact rd ((bV (.bin EZ y z)).get rfl).2 h
 |un Fa y=>exact rd ((bV (.un Fa y)).get rfl).2 h
 |pick c y z=>exact rd ((bV (.pick c y z)).get rfl).2 h
 |len y=>exact rd ((bV (.len y)).get rfl).2 h
 |mm mx y z=>exact rd ((bV (.mm mx y z)).get rfl).2 h
 |sB p=>exact rd ((bV (.sB p)).get rfl).2 h
 |yr n p=>exact rd ((bV (.yr n p)).get rfl).2 h
 |tT p off=>exact rd ((bV (.tT p off)).get rfl).2 h
 |idx k y i=>exact rd ((bV (.idx k y i)).get rfl).2 h
 |yt n k p i=>exact rd ((bV (.yt n k p i)).get rfl).2 h
 |ext y i=>exact rd ((bV (.ext y i)).get rfl).2 h
 |yu y i=>exact rd ((bV (.yu y i)).get rfl).2 h
 |wP y=>exact rd ((bV (.wP y)).get rfl).2 h
 |Ae y lo hi=>exact rd ((bV (.Ae y lo hi)).get rfl).2 h
 |Af kk y=>exact rd ((bV (.Af kk y)).get rfl).2 h
 |wQ y=>exact rd ((bV (.wQ y)).get rfl).2 h
 |Ag y z t=>exact rd ((bV (.Ag y z t)).get rfl).2 h
 |yv za qs=>exact rd ((bV (.yv za qs)).get rfl).2 h
 |eqs neg n y z=>exact rd ((bV (.eqs neg n y z)).get rfl).2 h
def kB (U:Option (List Nat))(st:St)(b:BO):Option St:=match b.g with
 |none=>(cS U st b.op).map fun p=>p.2.dR b.d p.1
 |some (t,want)=>match jd (st.arg (.t t)) want with
  |some true=>(cS U st b.op).map fun p=>p.2.dR b.d p.1
  |some false=>some (st.dR b.d (.bQ []))
  |none=>none
theorem Jr (st:St)(b:BO)(x:AV):st.jc (b.ao P) x=st.dR b.d x:=rfl
theorem YF {U:Option (List Nat)}{st st':St}{b:BO}(h:kB U st b=some st'){K:St->Prop}(hK:K st'):nG U (b.ao P) K st:=by
 have go:((cS U st b.op).map fun p=>p.2.dR b.d p.1)=some st'->(b.ao P).rf U st fun x dP=>K (dP.jc (b.ao P) x):=fun h=>by
  rw[bz] at h;obtain⟨⟨x,dP⟩,h1,h2⟩:=h;exact Nx h1 (by rw[Jr];dsimp only at h2;rw[h2];exact hK)
 obtain⟨d,g,op⟩:=b;unfold kB at h;dsimp only at h;unfold nG
 cases g with
 |none=>exact go h
 |some p=>
  obtain⟨t,want⟩:=p;dsimp only at h
  show(match jd (st.arg (.t t)) want with
   |some true=>_
   |some false=>_
   |none=>False)
  split at h
  ·exact go h
  ·simp only[ar] at h;rw[Jr,h];exact hK
  ·cases h
theorem aZ {U:Option (List Nat)}{b:BO}{r:List BO}{st st':St}{K:St->Prop}(h:kB U st b=some st')(hr:bo U (r.map (BO.ao P)) K st'):bo U ((b::r).map (BO.ao P)) K st:=YF h hr
theorem bq {U:Option (List Nat)}{st:St}{K:St->Prop}(h:K st):bo U (([]:List BO).map (BO.ao P)) K st:=h
theorem ano {U:Option (List Nat)}{d:Option Nat}{f:FuncId}{ys:List aw}{r:List BO}{st:St}{K:St->Prop}{ws:List AW}{R:AV->Prop}(ha:kP st ys=some ws)(hC:bt P f ws R)(hr:∀x,R x->bo U (r.map (BO.ao P)) K (st.dR d x)):
  bo U ((⟨d,none,.call f ys⟩::r:List BO).map (BO.ao P)) K st:=⟨ws,R,ha,hC,fun x hx=>hr x hx⟩
theorem yG {U:Option (List Nat)}{d:Option Nat}{f:FuncId}{ys:List aw}{r:List BO}{st:St}{K:St->Prop}{ws:List AW}{x:AV}(ha:kP st ys=some ws)(hC:bt P f ws (fun y=>y=x))(hr:bo U (r.map (BO.ao P)) K (st.dR d x)):
  bo U ((⟨d,none,.call f ys⟩::r:List BO).map (BO.ao P)) K st:=ano ha hC fun y hy=>by rw[hy];exact hr
theorem anp {l:List BO}{Q:dQ->St->Prop}{V L:List (Nat×AV)}{S:List (Nat×Slot)}(h:bo none (l.map (BO.ao P)) (Q .normal) ⟨V,[],S⟩):aC (lift P (.region l)) Q ⟨V,L,S⟩:=h
theorem Js {t:aw}{x y:aA}{Q:dQ->St->Prop}{st:St}{b:Bool}(hb:st.sc t=some (.bool b))(h:aC (lift P (if b then x else y)) Q st):aC (lift P (.cond t x y)) Q st:=by
 show(match st.sc t with
  |some (.bool true)=>_
  |some (.bool false)=>_
  |_=>False)
 rw[hb];cases b<;>exact h
theorem anq {id:Nat}{c:aA}{Q:dQ->St->Prop}{st:St}(h:aC (lift P c) (aJ id Q) st):aC (lift P (.block id c)) Q st:=h
theorem YG {U:Option (List Nat)}{op:dz}{st:St}{X Y:AV->St->Prop}(oM:∀x st,X x st->Y x st)(h:oK P U op st X):oK P U op st Y:=by
 have rd:∀(ev:St->List Nat->Option AV),Cx ev st X->Cx ev st Y:=fun ev ⟨x,h1,h2⟩=>⟨x,h1,oM _ _ h2⟩
 cases op with
 |Ad s e k=>exact⟨h.1,oM _ _ h.2⟩
 |box s y=>obtain⟨xw,h1,h2,h3⟩:=h;exact⟨xw,h1,h2,oM _ _ h3⟩
 |alloc s za=>exact⟨h.1,oM _ _ h.2⟩
 |pT k n za qs=>obtain⟨a,b,h1,h2,h3,h4⟩:=h;exact⟨a,b,h1,h2,h3,oM _ _ h4⟩
 |yC k za y=>obtain⟨n,h1,h2,h3,h4⟩:=h;exact⟨n,h1,h2,h3,oM _ _ h4⟩
 |Ah s e k za y=>obtain⟨n,h1,h2,h3,h4,h5⟩:=h;exact⟨n,h1,h2,h3,h4,oM _ _ h5⟩
 |tX s e k n za qs=>obtain⟨a,b,h1,h2,h3,h4,h5⟩:=h;exact⟨a,b,h1,h2,h3,h4,oM _ _ h5⟩
 |app e k y z=>obtain⟨s,g,es,ys,h1,h2,h3,h4,h5,h6,h7⟩:=h;exact⟨s,g,es,ys,h1,h2,h3,h4,h5,h6,oM _ _ h7⟩
 |store n p y=>obtain⟨xw,st',h1,h2,h3,h4,h5⟩:=h;exact⟨xw,st',h1,h2,h3,h4,oM _ _ h5⟩
 |mG D n p y=>obtain⟨xw,st',h1,h2,h3,h4,h5⟩:=h;exact⟨xw,st',h1,h2,h3,h4,oM _ _ h5⟩
 |call f ys=>obtain⟨ws,R,h1,h2,h3⟩:=h;exact⟨ws,R,h1,h2,fun r hr=>oM _ _ (h3 r hr)⟩
 |kR f ys D=>obtain⟨ws,R,h1,h2,h3,h4,h5,h6⟩:=h;exact⟨ws,R,h1,h2,h3,h4,h5,fun r S' hr=>⟨(h6 r S' hr).1,oM _ _ (h6 r S' hr).2⟩⟩
 |nE k y lo hi=>
  cases lo with
  |some lo=>exact rd ((bV (.nE k y (some lo) hi)).get rfl).2 h
  |none=>
   simp only[oK] at h⊢;split at h
   ·obtain⟨s,g,e,k,es,hh,h1,h2,h3,h4,h5⟩:=h;exact⟨s,g,e,k,es,hh,h1,h2,h3,h4,oM _ _ h5⟩
   ·exact rd _ h
 |mv y=>exact rd ((bV (.mv y)).get rfl).2 h
 |bin EZ y z=>exact rd ((bV (.bin EZ y z)).get rfl).2 h
 |un Fa y=>exact rd ((bV (.un Fa y)).get rfl).2 h
 |pick c y z=>exact rd ((bV (.pick c y z)).get rfl).2 h
 |len y=>exact rd ((bV (.len y)).get rfl).2 h
 |mm mx y z=>exact rd ((bV (.mm mx y z)).get rfl).2 h
 |sB p=>exact rd ((bV (.sB p)).get rfl).2 h
 |yr n p=>exact rd ((bV (.yr n p)).get rfl).2 h
 |tT p off=>exact rd ((bV (.tT p off)).get rfl).2 h
 |idx k y i=>exact rd ((bV (.idx k y i)).get rfl).2 h
 |yt n k p i=>exact rd ((bV (.yt n k p i)).get rfl).2 h
 |ext y i=>exact rd ((bV (.ext y i)).get rfl).2 h
 |yu y i=>exact rd ((bV (.yu y i)).get rfl).2 h
 |wP y=>exact rd ((bV (.wP y)).get rfl).2 h
 |Ae y lo hi=>exact rd ((bV (.Ae y lo hi)).get rfl).2 h
 |Af kk y=>exact rd ((bV (.Af kk y)).get rfl).2 h
 |wQ y=>exact rd ((bV (.wQ y)).get rfl).2 h
 |Ag y z t=>exact rd ((bV (.Ag y z t)).get rfl).2 h
 |yv za qs=>exact rd ((bV (.yv za qs)).get rfl).2 h
 |eqs neg n y z=>exact rd ((bV (.eqs neg n y z)).get rfl).2 h
theorem Ai {U:Option (List Nat)}{b:BO}{st:St}{K K':St->Prop}(hK:∀st,K st->K' st)(h:nG U (b.ao P) K st):nG U (b.ao P) K' st:=by
 obtain⟨d,g,op⟩:=b
 cases g with
 |none=>exact YG (fun x st hx=>hK _ hx) h
 |some p=>
  obtain⟨t,want⟩:=p
  change (match jd (st.arg (.t t)) want with
   |some true=>oK P U op st _
   |some false=>_
   |none=>False) at h
  change (match jd (st.arg (.t t)) want with
   |some true=>oK P U op st _
   |some false=>_
   |none=>False)
  split at h
  ·exact YG (fun x st hx=>hK _ hx) h
  ·exact hK _ h
  ·exact h.elim
theorem Nz {U:Option (List Nat)}:∀{l:List BO} {st:St} {K K':St->Prop},(∀st,K st->K' st)->bo U (l.map (BO.ao P)) K st->bo U (l.map (BO.ao P)) K' st
 |[],st,K,K',hK,h=>hK _ h
 |b::l,st,K,K',hK,h=>Ai (fun st h=>Nz hK h) h
theorem sI {U:List Nat}{l tl:List BO}{K K':St->Prop}(hK:∀st,K st->K' st):∀{t:OT} {bh:Bool} {st:St},aU U (l.map (BO.ao P)) (tl.map (BO.ao P)) K t bh st->aU U (l.map (BO.ao P)) (tl.map (BO.ao P)) K' t bh st
 | .nil,bh,st,h=>Nz hK h
 | .take i t,bh,st,h=>by
  unfold aU at h⊢;split at h
  ·exact h.elim
  ·split at h
   ·exact h.elim
   ·refine⟨h.1,?_⟩;have h2:=h.2;split at h2
    ·obtain⟨x,h3,h4⟩:=h2;exact⟨x,h3,sI hK h4⟩
    ·split at h2
     ·obtain⟨x,h3,h4⟩:=h2;exact⟨x,h3,sI hK h4⟩
     ·exact sI hK h2
     ·exact h2.elim
 | .move i t,bh,st,h=>by
  unfold aU at h⊢;rw[ek] at h⊢
  cases hl:l[i]? with
  |none=>rw[hl] at h;exact h.elim
  |some b=>rw[hl] at h;exact Ai (b:=b) (fun st h=>sI hK h) h
 | .fork i j ti tj,bh,st,h=>by
  unfold aU at h⊢;obtain⟨h1,h2⟩:=h;rw[ek] at h1 h2;rw[ek,ek];refine⟨?_,?_⟩
  ·cases hl:l[i]? with
   |none=>rw[hl] at h1;exact h1.elim
   |some b=>rw[hl] at h1;exact Ai (b:=b) (fun st h=>sI hK h) h1
  ·cases hl:l[j]? with
   |none=>rw[hl] at h2;exact h2.elim
   |some b=>rw[hl] at h2;exact Ai (b:=b) (fun st h=>sI hK h) h2
 | .qH i j k ti tj tk,bh,st,h=>by
  unfold aU at h⊢;obtain⟨h1,h2,h3⟩:=h;rw[ek] at h1 h2 h3;rw[ek,ek,ek];refine⟨?_,?_,?_⟩
  ·cases hl:l[i]? with
   |none=>rw[hl] at h1;exact h1.elim
   |some b=>rw[hl] at h1;exact Ai (b:=b) (fun st h=>sI hK h) h1
  ·cases hl:l[j]? with
   |none=>rw[hl] at h2;exact h2.elim
   |some b=>rw[hl] at h2;exact Ai (b:=b) (fun st h=>sI hK h) h2
  ·cases hl:l[k]? with
   |none=>rw[hl] at h3;exact h3.elim
   |some b=>rw[hl] at h3;exact Ai (b:=b) (fun st h=>sI hK h) h3
theorem ri:∀{c:aA} {Q Q':dQ->St->Prop} {st:St},(∀e st,Q e st->Q' e st)->aC (lift P c) Q st->aC (lift P c) Q' st
 | .skip,Q,Q',st,hQ,h=>hQ _ _ h
 | .ret,Q,Q',st,hQ,h=>hQ _ _ h
 | .exit id,Q,Q',st,hQ,h=>hQ _ _ h
 | .seq x y,Q,Q',st,hQ,h=>by
  refine ri (c:=x) (fun e st' he=> ?_) h
  cases e with
  |normal=>exact ri (c:=y) hQ he
  |exit id=>exact hQ _ _ he
  |ret=>exact hQ _ _ he
 | .cond t x y,Q,Q',st,hQ,h=>by
  unfold lift aC at h⊢;split at h
  ·rename_i hb;exact ri (c:=x) hQ h
  ·rename_i hb;exact ri (c:=y) hQ h
  ·exact h.elim
 | .block id c,Q,Q',st,hQ,h=>by
  refine ri (c:=c) (fun e st' he=> ?_) h
  cases e with
  |normal=>exact hQ _ _ he
  |exit lN=>
   unfold aJ at he⊢;dsimp only at he⊢;split at he
   ·rename_i hi;rw[if_pos hi];exact hQ _ _ he
   ·rename_i hi;rw[if_neg hi];exact hQ _ _ he
  |ret=>exact hQ _ _ he
 | .loop c,Q,Q',st,hQ,h=>by
  obtain⟨n,hn⟩:=h;refine⟨n,?_⟩
  have key:∀n st,zY (aC (lift P c)) Q n st->zY (aC (lift P c)) Q' n st:=by
   intro n
   induction n with
   |zero=>intro st h;exact h
   |succ n ih=>
    intro st h;refine ri (c:=c) (fun e st' he=> ?_) h
    cases e with
    |normal=>exact ih _ he
    |exit id=>exact hQ _ _ he
    |ret=>exact hQ _ _ he
  exact key n st hn
 | .jf s c,Q,Q',st,hQ,h=>ri (c:=c) (st:=st.freeze s) hQ h
 | .lM b off s e k c,Q,Q',st,hQ,h=>ri (c:=c) (st:=st.iz b off s e k) hQ h
 | .region l,Q,Q',st,hQ,h=>Nz (fun st h=>hQ _ _ h) h
 | .oJ l n t U,Q,Q',st,hQ,h=>by
  have hd:(l.map (BO.ao P)).drop n=(l.drop n).map (BO.ao P):=by rw[List.map_drop]
  unfold lift aC at h⊢;rw[hd] at h⊢;exact sI (fun st h=>hQ _ _ h) h
theorem anr {c:aA}{Q:dQ->St->Prop}{st:St}(I:Nat->St->Prop){n:Nat}(h0:I n st)(hr:∀n st,I n st->aC (lift P c) (aM (fun st'=>∃m,m<n/\I m st') Q) st):aC (lift P (.loop c)) Q st:=by
 have key:∀k n,n<=k->∀st,I n st->zY (aC (lift P c)) Q (k+1) st:=by
  intro k
  induction k with
  |zero=>
   intro n hn st hI;refine ri (fun e st' he=> ?_) (hr n st hI)
   cases e with
   |normal=>obtain⟨m,hm,_⟩:=he;omega
   |exit id=>exact he
   |ret=>exact he
  |succ k ih=>
   intro n hn st hI;refine ri (fun e st' he=> ?_) (hr n st hI)
   cases e with
   |normal=>obtain⟨m,hm,hI'⟩:=he;exact ih m aa st' hI'
   |exit id=>exact he
   |ret=>exact he
 exact⟨n+1,key n n av st h0⟩
end
end Ab
namespace Ab
open Go Go.RowKit
inductive RV where
 |t (i:Nat)
 |cell (p n:Nat)
 |cell1 (p:Nat)
def Aj (P:Program):ResultVar->Option RV
 | .tmp t=>some (.t t)
 | .cell p ty=>match(P.info? ty).map (·.size),P.underlying ty with
  |some n,some d=>if d.isRow then some (.cell p n) else some (.cell1 p)
  |_,_=>none
def tY (P:Program):List ResultVar->Option (List RV)
 |[]=>some []
 |r::l=>match Aj P r,tY P l with
  |some x,some q=>some (x::q)
  |_,_=>none
def wS (st:St):RV->Option AW
 | .t i=>match st.get i with
  |some (.w x)=>st.mF x
  |_=>none
 | .cell p n=>match st.cells [] n (st.get p) with
  |some cs=>st.mF (.agg cs)
  |none=>none
 | .cell1 p=>match st.cells [] 1 (st.get p) with
  |some [c]=>st.mF (.c c)
  |_=>none
def tZ (st:St):List RV->Option (List AW)
 |[]=>some []
 |r::l=>match wS st r,tZ st l with
  |some x,some q=>some (x::q)
  |_,_=>none
section
variable {P:Program} {owns:aF} {ts:aI}
theorem ans {st:St}{r:ResultVar}{q:RV}{x:AW}(h:Aj P r=some q)(hx:wS st q=some x):yB P st r=some x:=by
 cases r with
 |tmp t=>simp only[Aj,ar] at h;subst h;exact hx
 |cell p ty=>
  simp only[Aj] at h;split at h
  ·rename_i n d hn hd;simp only[yB,hn,hd];split at h
   ·rename_i hr;simp only[ar] at h;subst h;rw[if_pos hr];simp only[wS] at hx;split at hx
    ·rename_i cs hc;rw[hc];exact hx
    ·cases hx
   ·rename_i hr;simp only[ar] at h;subst h;rw[if_neg hr];simp only[wS] at hx;split at hx
    ·rename_i c hc;rw[hc];exact hx
    ·cases hx
  ·cases h
theorem NA {st:St}:∀{rs:List ResultVar} {qs:List RV} {xs:List AW},tY P rs=some qs->tZ st qs=some xs->sH P st rs=some xs
 |[],qs,xs,h,hx=>by simp only[tY,ar] at h;subst h;exact hx
 |r::rs,qs,xs,h,hx=>by
  unfold tY at h;split at h
  ·rename_i q l h1 h2;simp only[ar] at h;subst h;unfold tZ at hx;split at hx
   ·rename_i x l' g1 g2;simp only[ar] at hx;subst hx;unfold sH;rw[ans h1 g1,NA h2 g2]
   ·cases hx
  ·cases h
def NB (rv:List RV)(Q:AV->Prop):dQ->St->Prop
 | .exit _,_=>False
 |_,st=>∃xs,tZ st rv=some xs/\Q (cZ xs)
theorem bZ (hE:∀p∈owns.eqs,nI P p.1 p.2){f:FuncId}{fn:Func}{c:Code}{b:aA}(hf:P.funcs[f]? =some fn)(hb:fn.body=some c)(ht:aD P owns fn.ntmps ts c=some b)(rv:List RV)(yH:tY P fn.results.toList=some rv)(args:List AW)(Aa:Nat.ble args.length fn.ntmps=true)(vs ss:List Nat){Q:AV->Prop}
  (h:aC (lift P b) (NB rv Q) ⟨V0 args 0 vs,[],S0 ss⟩):bt P f args Q:=
 ann hE hf hb ht args (vO Aa) vs ss (ri (fun e st he=>by
  cases e with
  |normal=>obtain⟨xs,h1,h2⟩:=he;exact⟨trivial,xs,NA yH h1,h2⟩
  |exit id=>exact he.elim
  |ret=>obtain⟨xs,h1,h2⟩:=he;exact⟨trivial,xs,NA yH h1,h2⟩) h)
variable {Q:dQ->St->Prop} {V L:List (Nat×AV)} {S:List (Nat×Slot)} {st:St} {x y z:aA}
theorem yI {U:Option (List Nat)}{d:Option Nat}{e k s g:Nat}{u v:aw}{r:List BO}{K:St->Prop}{es ys:List (List AC)}{st':St}(hx:st.arg u=some (.w (.c (.own s g))))(hs:aB st.S s=some (.row e k g es))(hy:st.rows [s] (st.arg v)=some ys)(hk:∀row∈ys,row.length=k)(hl:es.length+ys.length<=100000000)(hU:oL U s=true)
  (hst:(st.bM s (.row e k (g+1) (es++ys))).dR d (.w (.c (.own s (g+1))))=st') (h:bo U (r.map (BO.ao P)) K st'):bo U ((⟨d,none,.app e k u v⟩::r:List BO).map (BO.ao P)) K st:=by
 subst hst;refine aZ ?_ h
 have hw:cS U st (.app e k u v)=some (.w (.c (.own s (g+1))),st.bM s (.row e k (g+1) (es++ys))):=by
  unfold cS;dsimp only;rw[hx];dsimp only;rw[hs];dsimp only;rw[hy];dsimp only;rw[if_pos ⟨⟨rfl,rfl,rfl⟩,hk,hl,hU⟩]
 unfold kB;dsimp only;rw[hw];rfl
theorem YH {U:Option (List Nat)}{d:Option Nat}{f:FuncId}{ys:List aw}{r:List BO}{K:St->Prop}{ws:List AW}{x:AV}{t:Nat}{want:Bool}(hg:st.sc (.t t)=some (.bool want))(ha:kP st ys=some ws)(hC:bt P f ws (fun y=>y=x))(hr:bo U (r.map (BO.ao P)) K (st.dR d x)):
  bo U ((⟨d,some (t,want),.call f ys⟩::r:List BO).map (BO.ao P)) K st:=by
 show(match jd (st.arg (.t t)) want with
  |some true=>_
  |some false=>_
  |none=>False)
 have hw:jd (st.arg (.t t)) want=some true:=by
  unfold St.sc zN at hg;split at hg
  ·rename_i u hu;rw[hu];cases hg;cases want<;>rfl
  ·cases hg
 rw[hw];exact⟨ws,_,ha,hC,fun y hy=>by rw[hy];exact hr⟩
theorem YI {U:Option (List Nat)}{d:Option Nat}{D:List Nat}{n:Nat}{p x:aw}{st st':St}(hx:kB U (lK D st) ⟨d,none,.store n p x⟩=some st'){K:St->Prop}(hK:K st'):nG U ((⟨d,none,.mG D n p x⟩:BO).ao P) K st:=by
 unfold kB at hx;dsimp only at hx;rw[bz] at hx;obtain⟨⟨y,dP⟩,h1,h2⟩:=hx;exact Nx (P:=P) (X:=fun x dP=>K (dP.jc ((⟨d,none,.mG D n p _⟩:BO).ao P) x)) h1 (by rw[Jr];dsimp only at h2⊢;rw[h2];exact hK)
theorem YJ {U:Option (List Nat)}{d:Option Nat}{D:List Nat}{n:Nat}{p q:aw}{r:List BO}{K:St->Prop}{st st':St}(hx:kB U (lK D st) ⟨d,none,.store n p q⟩=some st')(h:bo U (r.map (BO.ao P)) K st'):bo U ((⟨d,none,.mG D n p q⟩::r:List BO).map (BO.ao P)) K st:=YI hx h
theorem k_reg {l:List BO}(h:bo none (l.map (BO.ao P)) (fun st=>aC (lift P y) Q st) ⟨V,[],S⟩):aC (lift P (.seq (.region l) y)) Q ⟨V,L,S⟩:=h
theorem uc {l:List BO}(h:bo none (l.map (BO.ao P)) (fun st=>Q .normal st) ⟨V,[],S⟩):aC (lift P (.region l)) Q ⟨V,L,S⟩:=h
theorem eX (h:aC (lift P (.seq x (.seq y z))) Q st):aC (lift P (.seq (.seq x y) z)) Q st:=ri (c:=x) (fun e st' he=>by
 cases e with
 |normal=>exact he
 |exit id=>exact he
 |ret=>exact he) h
theorem iR {t:aw}(b:Bool)(hb:st.sc t=some (.bool b))(h:aC (lift P (.seq (bif b then x else y) z)) Q st):aC (lift P (.seq (.cond t x y) z)) Q st:=Js (x:=x) (y:=y) hb (by cases b<;>exact h)
theorem yJ {t:aw}(b:Bool)(hb:st.sc t=some (.bool b))(h:aC (lift P (bif b then x else y)) Q st):aC (lift P (.cond t x y)) Q st:=Js (x:=x) (y:=y) hb (by cases b<;>exact h)
theorem oN (h:aC (lift P z) Q st):aC (lift P (.seq .skip z)) Q st:=h
theorem wU {id:Nat}(h:Q (.exit id) st):aC (lift P (.seq (.exit id) z)) Q st:=h
theorem Jt {id:Nat}(h:Q (.exit id) st):aC (lift P (.exit id)) Q st:=h
theorem ue (h:Q .ret st):aC (lift P (.seq .ret z)) Q st:=h
theorem kS (h:Q .ret st):aC (lift P .ret) Q st:=h
theorem rj {id:Nat}(h:aC (lift P x) (aJ id (aM (fun st=>aC (lift P z) Q st) Q)) st):aC (lift P (.seq (.block id x) z)) Q st:=h
theorem Ju {id:Nat}(h:aC (lift P x) (aJ id Q) st):aC (lift P (.block id x)) Q st:=h
theorem cF {c:aA}(I:Nat->List (Nat×AV)->List (Nat×Slot)->Prop){n:Nat}(h0:I n V S)(hr:∀n V L S,I n V S->aC (lift P c) (aM (fun st'=>∃m,m<n/\I m st'.V st'.S) Q) ⟨V,L,S⟩):aC (lift P (.loop c)) Q ⟨V,L,S⟩:=
 anr (fun n st=>I n st.V st.S) h0 fun n st h=>hr n st.V st.L st.S h
theorem NC {s:Nat}{st':St}(hs:st.freeze s=st')(h:aC (lift P (.seq x z)) Q st'):aC (lift P (.seq (.jf s x) z)) Q st:=by subst hs;exact h
theorem YK {b off s e k:Nat}{st':St}(hs:st.iz b off s e k=st')(h:aC (lift P (.seq x z)) Q st'):aC (lift P (.seq (.lM b off s e k x) z)) Q st:=by subst hs;exact h
theorem ND {b off s e k:Nat}{st':St}(hs:st.iz b off s e k=st')(h:aC (lift P x) Q st'):aC (lift P (.lM b off s e k x)) Q st:=by subst hs;exact h
theorem NG {s:Nat}{st':St}(hs:st.freeze s=st')(h:aC (lift P x) Q st'):aC (lift P (.jf s x)) Q st:=by subst hs;exact h
theorem sJ {l:List BO}{n:Nat}{t:OT}{U:List Nat}(h:aU U (l.map (BO.ao P)) ((l.drop n).map (BO.ao P)) (fun st=>aC (lift P y) Q st) t false ⟨V,[],S⟩):aC (lift P (.seq (.oJ l n t U) y)) Q ⟨V,L,S⟩:=by
 rw[List.map_drop] at h;exact h
theorem Cz {l:List BO}{n:Nat}{t:OT}{U:List Nat}(h:aU U (l.map (BO.ao P)) ((l.drop n).map (BO.ao P)) (fun st=>Q .normal st) t false ⟨V,[],S⟩):aC (lift P (.oJ l n t U)) Q ⟨V,L,S⟩:=by
 rw[List.map_drop] at h;exact h
def Ak (U:List Nat)(st:St)(b:BO)(bh:Bool):Option St:=match bV b.op with
 |none=>none
 |some (mem,ev)=>if mem=true/\bh=true then none else match b.g with
  |none=>(ev st U).map fun x=>st.dR b.d x
  |some (t,want)=>match jd (st.arg (.t t)) want with
   |some true=>(ev st U).map fun x=>st.dR b.d x
   |some false=>some (st.dR b.d (.bQ []))
   |none=>none
theorem nK {U:List Nat}{l:List BO}{tl:List AO}{K:St->Prop}{i:Nat}{t:OT}{bh:Bool}{b:BO}{st':St}(hi:l[i]? =some b)(hx:Ak U st b bh=some st')(h:aU U (l.map (BO.ao P)) tl K t bh st'):aU U (l.map (BO.ao P)) tl K (.take i t) bh st:=by
 obtain⟨d,g,op⟩:=b;unfold Ak at hx;dsimp only at hx;split at hx
 ·cases hx
 rename_i mem ev lH;split at hx
 ·cases hx
 rename_i hm;unfold aU;rw[ek,hi]
 show(match bV op with
  |none=>False
  |some (mem,ev)=>_)
 rw[lH];refine⟨fun h1=>by cases bh<;>simp_all,?_⟩
 cases g with
 |none=>
  dsimp only at hx;rw[bz] at hx;obtain⟨x,hx,rfl⟩:=hx;exact⟨x,hx,h⟩
 |some p=>
  obtain⟨tt,want⟩:=p;dsimp only at hx
  change (match jd (st.arg (.t tt)) want with
   |some true=>_
   |some false=>_
   |none=>False)
  split at hx
  ·rw[bz] at hx;obtain⟨x,hx,rfl⟩:=hx;exact⟨x,hx,h⟩
  ·simp only[ar] at hx;subst hx;exact h
  ·cases hx
theorem sK {U:List Nat}{l:List AO}{tl:List AO}{K:St->Prop}{i j:Nat}{ti tj:OT}{bh:Bool}(h1:aU U l tl K (.move i ti) bh st)(h2:aU U l tl K (.move j tj) bh st):aU U l tl K (.fork i j ti tj) bh st:=⟨h1,h2⟩
theorem yK {U:List Nat}{l:List AO}{tl:List AO}{K:St->Prop}{i j k:Nat}{ti tj tk:OT}{bh:Bool}(h1:aU U l tl K (.move i ti) bh st)(h2:aU U l tl K (.move j tj) bh st)(h3:aU U l tl K (.move k tk) bh st):aU U l tl K (.qH i j k ti tj tk) bh st:=⟨h1,h2,h3⟩
theorem pV {U:List Nat}{l:List AO}{tl:List AO}{K:St->Prop}{bh:Bool}(h:bo none tl K st):aU U l tl K .nil bh st:=h
theorem Ff {U:List Nat}{l:List BO}{tl:List AO}{K:St->Prop}{i:Nat}{t:OT}{bh:Bool}{b:BO}{st':St}(hi:l[i]? =some b)(hx:kB (some U) st b=some st')(h:aU U (l.map (BO.ao P)) tl K t true st'):aU U (l.map (BO.ao P)) tl K (.move i t) bh st:=by
 unfold aU;rw[ek,hi];exact YF hx h
theorem YL {U:List Nat}{l:List BO}{tl:List AO}{K:St->Prop}{i:Nat}{t:OT}{bh:Bool}{d:Option Nat}{D:List Nat}{n:Nat}{p q:aw}{st st':St}(hi:l[i]? =some ⟨d,none,.mG D n p q⟩)(hx:kB (some U) (lK D st) ⟨d,none,.store n p q⟩=some st')(h:aU U (l.map (BO.ao P)) tl K t true st'):aU U (l.map (BO.ao P)) tl K (.move i t) bh st:=by
 unfold aU;rw[ek,hi];exact YI hx h
theorem Al {U:List Nat}{l:List BO}{tl:List AO}{K:St->Prop}{i:Nat}{t:OT}{bh:Bool}{d:Option Nat}{f:FuncId}{ys:List aw}{ws:List AW}{x:AV}(hi:l[i]? =some ⟨d,none,.call f ys⟩)(ha:kP st ys=some ws)(hC:bt P f ws (fun y=>y=x))(h:aU U (l.map (BO.ao P)) tl K t true (st.dR d x)):
  aU U (l.map (BO.ao P)) tl K (.move i t) bh st:=by
 unfold aU;rw[ek,hi];exact⟨ws,_,ha,hC,fun y hy=>by rw[hy];exact h⟩
theorem bd {rv:List RV}{Q:AV->Prop}{xs:List AW}(h:tZ st rv=some xs)(hQ:Q (cZ xs)):NB rv Q .ret st:=⟨xs,h,hQ⟩
end
@[simp] theorem awM (x:Value):inl (.v x)=true:=rfl
@[simp] theorem awN (es:List (List AC)):inl (.sl es)=true:=rfl
@[simp] theorem awO (s g:Nat):inl (.own s g)=false:=rfl
@[simp] theorem awP (st:St)(x:Value):st.fz (.v x)=some (.v x):=rfl
@[simp] theorem awQ (st:St)(es:List (List AC)):st.fz (.sl es)=some (.sl es):=rfl
@[simp] theorem awR (st:St)(s g:Nat):st.fz (.own s g)=match st.slot s with
  | .row _ k g' es=>if g=g'/\0<k then some (.sl es) else none
  |_=>none:=rfl
@[simp] theorem awS (k:IntKind)(a b:Int):aY .eql (.int k a) (.int k b)=some (.bool (decide (a=b))):=by simp[aY]
@[simp] theorem awT (k:IntKind)(a b:Int):aY .neq (.int k a) (.int k b)=some (.bool (decide (a≠b))):=by simp[aY]
@[simp] theorem awU (k:IntKind)(a b:Int):aY .lss (.int k a) (.int k b)=some (.bool (decide (a<b))):=by simp[aY]
@[simp] theorem awV (k:IntKind)(a b:Int):aY .leq (.int k a) (.int k b)=some (.bool (decide (a<=b))):=by simp[aY]
@[simp] theorem awW (k:IntKind)(a b:Int):aY .gtr (.int k a) (.int k b)=some (.bool (decide (b<a))):=by simp[aY]
@[simp] theorem awX (k:IntKind)(a b:Int):aY .geq (.int k a) (.int k b)=some (.bool (decide (b<=a))):=by simp[aY]
theorem wrap64 {n:Int}(h1: -9223372036854775808<=n)(h2:n<=9223372036854775807):IntKind.i64.wrap n=n:=by
 simp only[IntKind.wrap,IntKind.signed,IntKind.bits];simp;omega
theorem lO {a b:Int}(h1: -9223372036854775808<=a+b)(h2:a+b<=9223372036854775807):aY .add (.int .i64 a) (.int .i64 b)=some (.int .i64 (a+b)):=by simp[aY,wrap64 h1 h2]
theorem fJ {a b:Int}(h1: -9223372036854775808<=a-b)(h2:a-b<=9223372036854775807):aY .sub (.int .i64 a) (.int .i64 b)=some (.int .i64 (a-b)):=by simp[aY,wrap64 h1 h2]
theorem ant {a b:Int}(h1: -9223372036854775808<=a*b)(h2:a*b<=9223372036854775807):aY .mul (.int .i64 a) (.int .i64 b)=some (.int .i64 (a*b)):=by simp[aY,wrap64 h1 h2]
theorem YM {a b:Int}(h0:b≠0)(h1: -9223372036854775808<=a.tdiv b)(h2:a.tdiv b<=9223372036854775807):aY .quo (.int .i64 a) (.int .i64 b)=some (.int .i64 (a.tdiv b)):=by simp[aY,wrap64 h1 h2,h0]
theorem Fg {a b:Int}(h0:b≠0):aY .rem (.int .i64 a) (.int .i64 b)=some (.int .i64 (a.tmod b)):=by simp[aY,h0]
theorem bL {k:Nat}(h:k<=1000000000):aY .add (.int .i64 (k:Int)) (.int .i64 1)=some (.int .i64 ((k+1:Nat):Int)):=by
 rw[lO aa aa];rfl
@[simp ↓] theorem awY {α:Type}{f:α->List AC}{l:List α}{k:Nat}:(∀row∈l.map f,row.length=k)↔∀x∈l,(f x).length=k:=List.forall_mem_map
@[simp] theorem awZ (g:Nat):(Slot.dead g).gen=g:=rfl
@[simp] theorem axa (g:Nat)(cs:List AC):(Slot.box g cs).gen=g:=rfl
@[simp] theorem axb (e k g:Nat)(es:List (List AC)):(Slot.row e k g es).gen=g:=rfl
attribute [simp] Jk Ac Jj
attribute [simp] lK St.freeze mapA sE Jh je lJ kB jd cS bV Ak St.get St.arg St.sc zN aB mu St.put St.dR St.slot St.bM St.cells St.rows AW.cells AV.shift kP AW.inl mB jQ tZ wS St.mF St.gK cZ aM aJ NB oL YE EO St.store yx qZ EN Cm IX
end Ab
end Go.Proofs.YtlnghiefahcnpaaGreat
