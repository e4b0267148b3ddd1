import Derived.Test.YtngblilamkkikaaGreatDoorW10
import Derived.Test.YtngblilamkkikaaGreatDoorW13
import Derived.Test.YtngblilamkkikaaGreatDoorW11
set_option maxHeartbeats 40000000
set_option maxRecDepth 100000
set_option linter.all false
namespace Go.Proofs.YtngblilamkkikaaGreatDoor
namespace Ab
open Go Go.RowKit jc
attribute [local irreducible] aL bm aU
open aD (fm eo Rr aT td tf jE gC wE oh fo ta yr wC)
open aD (js pN XA Rt tU sr)
theorem Yg:∀(l:List (Int×Int)) (c r:List Int),aD.jD c l=some r->r.length=c.length
 |[],c,r,h=>by
  simp only[aD.jD,aC] at h;rw[h]
 |x::l,c,r,h=>by
  obtain⟨_,_,h3⟩:=Mn (i:=x.1) (v:=x.2) h;have:=Yg l _ _ h3;simpa using this
theorem agJ (n:aD.Node)(ak sn:AC)(rep:Bool)(val:Int)(fl:AC)(c:aT)(aE o0 o1 o2 o3 o4 o5:AC):(rC n ak sn rep val fl c [o0,o1,o2,o3,o4,o5] aE).drop 67=[]:=sV (by rw[gP];exact cI _)
theorem MZ {D:List Nat}:∀{cs:List AC},cs.all inl=true->cs.all (kL D)=true
 |[],_=>rfl
 |c::cs,h=>by
  simp only[Af,bO] at h;rw[Af,MZ h.2,Bool.and_true]
  cases c with
  |own s g=>cases h.1
  |cB s g=>cases h.1
  |part s g i=>cases h.1
  |cls f bP=>cases h.1
  |fc f bP=>rfl
  |v x=>rfl
  |sl es=>rfl
theorem atF {n:aD.Node}{ak:AC}{g1 g2:Nat}{rep:Bool}{val:Int}{c:aT}{o:List AC}{aE:AC}(yZ:inl ak=true)(ho:o.all inl=true)(tR:inl aE=true):(rC n ak (.own 401 g1) rep val (.own 402 g2) c o aE).all (kL [401,402])=true:=by
 rw[dW,List.all_append,MZ (Rc n),List.all_append,List.all_append,MZ ho,MZ (cs:=[aE]) (by simp[tR])];have h1:=MZ (D:=[401,402]) (cs:=[ak]) (by simp[yZ]);simp only[Af,List.all_nil,Bool.and_true] at h1;simp only[Af,List.all_nil,h1];rfl
structure Na (r:Rr)(m:Nat):Prop where
 cells:r.s.aY.cells.length<=1000
 MK:r.s.aY.pending.length<=1000
 tim:r.s.timers.length<=1000
 sent:r.sent.length<=m
 fail:r.bB.length<=m
theorem agK (l:List Int)(k:Int)(set:Bool):(aD.yt l k set).length<=8:=by
 unfold aD.yt;exact bh (nb _ _) ai
theorem atG {r r':Rr}{a:fm}{m:Nat}(h:td r a=some r')(hb:Na r m):Na r' (m+1)/\r'.asks=r.asks/\r'.fy=r.fy/\r'.out=r.out/\r'.covered=r.covered:=by
 obtain⟨b1,b2,b3,b4,b5⟩:=hb
 have d:∀(d:aD.jk),d.cells.length<=1000->d.pending.length<=1000->Na { r with s:={ r.s with aY:=d } } (m+1):=fun d g1 g2=>⟨g1,g2,b3,qx b4,qx b5⟩
 unfold td at h;split at h
 ·simp only[bK] at h;obtain⟨x,hx,rfl⟩:=h;refine⟨?_,rfl,rfl,rfl,rfl⟩;unfold aD.wD at hx;split at hx
  ·cases hx;exact d _ b1 b2
  ·split at hx
   ·simp only[bK] at hx;obtain⟨c,hc,rfl⟩:=hx;exact d _ (by have:=Yg _ _ _ hc;show c.length<=1000;omega) (by simp;exact b2)
   ·rename_i h4;cases hx;refine d _ b1 ?_
    show(r.s.aY.pending++[(a.a,a.b)]).length<=1000
    omega
 ·split at h
  ·simp only[bK] at h;obtain⟨x,hx,rfl⟩:=h;refine⟨?_,rfl,rfl,rfl,rfl⟩;unfold aD.yq aD.uY at hx;simp only[bK] at hx;obtain⟨c,hc,rfl⟩:=hx;exact d _ (by have:=Yg _ _ _ hc;show c.length<=1000;omega) ai
  ·repeat' split at h
   all_goals
    simp only[aC] at h;subst h;refine⟨?_,rfl,rfl,rfl,rfl⟩
   ·exact⟨b1,b2,bh (agK _ _ _) ab,qx b4,qx b5⟩
   ·exact⟨b1,b2,bh (agK _ _ _) ab,qx b4,qx b5⟩
   ·exact⟨b1,b2,b3,by simp;omega,qx b5⟩
   ·exact⟨b1,b2,b3,qx b4,qx b5⟩
   ·exact⟨b1,b2,b3,qx b4,qx b5⟩
   ·exact⟨b1,b2,b3,qx b4,by simp;omega⟩
   ·exact⟨b1,b2,b3,qx b4,qx b5⟩
theorem agL (l:List aI)(c:aT):∀(a b:List Int) (j:Nat),jE l c j (a++b)=jE l c j a++jE l c (j+a.length) b
 |[],b,j=>by simp[jE]
 |x::a,b,j=>by
  simp only[List.cons_append,jE,agL l c a b (j+1),List.length_cons];rw[show j+1+a.length=j+(a.length+1) by omega]
theorem atH {r r2:Rr}{a:fm}{l:List fm}(h:tf r (a::l)=some r2):∃r1,td r a=some r1/\tf r1 l=some r2:=by
 unfold tf at h;split at h
 ·cases h
 ·rename_i r1 h1;exact⟨r1,h1,h⟩
theorem agM {ps:List Prog}{eV kk:Nat}{s:aD.Node}(hN:js ps eV kk s){p:Prog}(hp:ps[s.version.toNat]? =some p)(hs:pN p=true)(ft:s.up=true){handler:Nat}(hh:handler<40){self nodes drift:Int}(AR:aD.bq self=true)(ze:aD.bq nodes=true)(mc:0<=drift/\drift<=3){n0 n1 n2 n3 n4 n5 n6 n7 n8:Int}(dF:∀x∈[n0,n1,n2,n3,n4,n5,n6,n7,n8],aD.bq x=true){l:List aI}(fA:kk<=5000)(hl:l.length<=1000000){r:Rr}(h:oh s p handler self nodes drift [n0,n1,n2,n3,n4,n5,n6,n7,n8] l=some r):
  bu Tryz.prog 163 [.agg (aS s),.agg (cz p),.c (iA handler),.c (iA self),.c (iA nodes),.c (iA drift),.agg [iA n0,iA n1,iA n2,iA n3,iA n4,iA n5,iA n6,iA n7,iA n8],.c (mJ l)] (fun x=>x=.w (.agg (rC r.s (asks r.asks) (.sl (r.sent.map vA)) r.qE r.value (ints r.bB) r.fy (xm r.out) (ints r.covered)))):=by
 have hlt:handler<s.counts.length:=by rw[hN.nc];omega
 have oI:=hN.counts _ (cA hlt)
 have hce:s.counts[handler]? =some s.counts[handler]:=by simp[hlt]
 have db:s.counts.getD handler 0=s.counts[handler]:=by rw[ff,hce];rfl
 have asU:=hN.clock;have np:=Xh s (show handler<41 by omega);rw[db] at np;unfold oh at h;rw[hce] at h;generalize s.counts[handler]=k at oI hce db np h;dsimp only at h;obtain⟨vars,iO,qW,xh⟩:=Rt hN;rw[iO] at h;dsimp only at h;have h41:handler<41:=ab;have h52:8+handler+1<=52:=ab;have h51:8+handler<=51:=ab;have atJ:8+handler<52:=ab;have agN:(handler:Int)<41:=ab;have atK:=oC (a:=s.clock) (b:=1) ab ab
 have tA:vars.length<=1000000:=by have:=hN.qU;have:=hN.zd;omega
 obtain⟨tick,n,zf,cB⟩:∃(tick:List Ask) (n:Int),tick=(if 0<drift then [gC ⟨self,handler,k,2,0⟩ (drift+1) n] else [])/\n=(if 0<drift then fo l ⟨self,handler,k,2,0⟩ (drift+1) else 0):=⟨_,_,rfl,rfl⟩
 have Bf:0<=n/\n<=3:=by
  rw[cB];split
  ·have:=aD.FR l ⟨self,handler,k,2,0⟩ (show 0<drift+1 by omega);omega
  ·omega
 simp only[aD.aT.qn] at h;rw[<-cB,<-zf] at h;split at h
 ·cases h
 rename_i o ho;split at h
 case isFalse=>cases h
 rename_i hdu;have fC:=(hN.run ft).2 p hp
 obtain⟨o',qB,hO,zk,hst⟩:=XA hs hh (vars:=vars) (names:=wE [n0,n1,n2,n3,n4,n5,n6,n7,n8] self nodes (s.clock+1+n)) (answers:=ta l ⟨self,handler,k⟩) ab xh rfl (fun x hx=>by
  have hx:x∈[self,nodes,s.clock+1+n,n3,n4,n5,n6,n7,n8]:=hx;simp only[bZ,kB,lO] at hx
  rcases hx with rfl|rfl|rfl|rfl|rfl|rfl|rfl|rfl|rfl
  ·exact AR
  ·exact ze
  ·rw[aD.tT];omega
  all_goals exact dF _ ai)
 rw[ho] at qB;cases qB
 have atL:(ta l ⟨self,handler,k⟩).length<=1000000:=by unfold ta;simp;omega
 have afT:p.code.length<=1000000:=by
  have ic:=hs;unfold pN at ic;simp only[bO,cP] at ic;have:=ic.2;omega
 have hrun:bu Tryz.prog 222 [.agg (cz p),.c (iA handler),.c (ints vars),.agg [iA self,iA nodes,iA (s.clock+1+n),iA n3,iA n4,iA n5,iA n6,iA n7,iA n8],.c (ints (ta l ⟨self,handler,k⟩))] (fun x=>x=.w (.agg (xm o))):=atx p handler vars _ _ o ho hh rfl tA atL afT;have atM:=afd s vars iO (by have:=hN.qU;omega) (by have:=hN.aY.lG;omega) (by have:=hN.zd;omega);have yx:=arH l ⟨self,handler,k⟩ hl;refine cD Tryz.func163 ⟨0,[],[(224,[401,402])],[(20,[400])],dc,[(31,[52,53,56])],[(2,[(17,52,400,94,7),(17,53,401,184,9),(17,56,402,3,1)])]⟩ [tm 1 9,(11,9,tk 0 3 (tk 4 4 (.move 3 (.move 8 .nil))),[]),(17,20,tk 0 17 (.move 17 (tk 18 1 (.move 19 .nil))),[]),tz 23 7] [.cell 16 67] [8,9,14,16,17,18,19,20,21,22] [8,9,14,16,17,18,21,400,401,402] ?_;have FF:=UF @h41 @agN @h52 @h51 @atJ @np @afp @gP @tP @afu @afq @asa @asb @afr @ase @asf @Xr @afs @atK
 try refine aJ ?_
 try clear FF
 by_cases hd:0<drift
 case' pos=>
  rw[aj hd] at zf cB;have hq:=aD.FR l ⟨self,handler,k,2,0⟩ (show 0<drift+1 by omega);rw[<-cB] at hq;have oH:=Xf l ⟨self,handler,k,2,0⟩ (drift+1) ab hl;rw[<-cB] at oH;have d1:=oC (a:=drift) (b:=1) ab ab;have d2:=oC (a:=s.clock+1) (b:=n) ab ab;have FF:=EC @hd @d1 @d2 @gP @tP @Xr @afs @Rl @Xs @FO;refine bU oH ?_
  try clear FF
  obtain⟨g4,JT⟩:∃g4:Nat,g4=2:=⟨_,rfl⟩
  rw[show [[iA self,iA ↑handler,iA k,AC.v (Value.int IntKind.i64 2),AC.v (Value.int IntKind.i64 0),AC.v (Value.int IntKind.i64 (drift+1)),iA n]]=tick.map eb from by rw[zf];rfl,show AC.own 400 2=AC.own 400 g4 by rw[JT],show∀x,Slot.row 94 7 2 x=Slot.row 94 7 g4 x from fun x=>by rw[JT]];generalize Slot.box 1 [iA self,iA ↑handler,iA k,AC.v (Value.int IntKind.i64 2),AC.v (Value.int IntKind.i64 0)]=s18;generalize AV.w (AW.c (iA n))=x19;generalize AV.pb 18 1 0=x18;have Bf:0<=n/\n<=3:=ab
 case' neg=>
  rw[af hd] at zf cB;have FF:=@hd
  try refine aJ ?_
  try clear FF
  obtain⟨g4,JT⟩:∃g4:Nat,g4=1:=⟨_,rfl⟩
  rw[show Slot.row 94 7 1 []=Slot.row 94 7 g4 (tick.map eb) from by rw[zf,JT];rfl,show AC.own 400 1=AC.own 400 g4 by rw[JT],show s.clock+1=s.clock+1+n by omega]
  obtain⟨x18,h18⟩:∃x18,x18=AV.u:=⟨_,rfl⟩
  obtain⟨x19,h19⟩:∃x19,x19=AV.u:=⟨_,rfl⟩
  obtain⟨s18,agO⟩:∃s18,s18=Slot.dead 0:=⟨_,rfl⟩
  rw[show((18:Nat),AV.u)=(18,x18) by rw[h18],show((19:Nat),AV.u)=(19,x19) by rw[h19],show((18:Nat),Slot.dead 0)=(18,s18) by rw[agO]];have Bf:0<=n/\n<=3:=ab;clear h18 h19 agO
 all_goals
  clear JT;have FF:=UD @gP @tP @Xr @FO @ash @asi @agJ @afv @Xt @asj @asl @asm @Xu;refine FA atM yx hrun ?_
  try clear FF
  have ll:tick.length<=1:=by rw[zf];simp
  clear zf cB;rw[show Slot.row 94 7 g4 (tick.map eb)=Slot.row 94 7 g4 ((tick++jE l ⟨self,handler,k⟩ 0 (o.asked.take 0)).map eb) by simp[jE]]
  refine dB (fun m V S=>∃(i g:Nat) (x21:AV) (s21:Slot) (z16:List AC),i<=o.asked.length/\m=o.asked.length-i/\
   V=[(0,.w (.agg (aS s))),(1,.w (.agg (cz p))),(2,.w (.c (iA handler))),(3,.w (.c (iA self))),(4,.w (.c (iA nodes))),(5,.w (.c (iA drift))),(6,.w (.agg [iA n0,iA n1,iA n2,iA n3,iA n4,iA n5,iA n6,iA n7,iA n8])),(7,.w (.c (mJ l))),(8,.pb 8 1 0),(9,.pb 9 1 0),(14,.pb 14 1 0),(16,.pb 16 1 0),(17,.pb 17 1 0),(18,x18),(19,x19),(20,.w (.c (iA i))),(21,x21),(22,.u)]/\
   S=[(8,.box 1 (aS s)),(9,.box 1 (cz p)),(14,.box 1 [iA self,iA nodes,iA (s.clock+1+n),iA n3,iA n4,iA n5,iA n6,iA n7,iA n8]),(16,.box 1 z16),(17,.box 1 (rC { s with clock:=s.clock+1+n } (.own 400 g) (.own 401 1) false 0 (.own 402 1) ⟨self,handler,k⟩ (xm o) (ints o.covered))),(18,s18),(21,s21),(400,.row 94 7 g ((tick++jE l ⟨self,handler,k⟩ 0 (o.asked.take i)).map eb)),(401,.row 184 9 1 []),(402,.row 3 1 1 [])]/\z16.length=67) (n:=o.asked.length) ⟨0,g4,.u,.dead 0,_,ab,ab,rfl,rfl,iY⟩ ?_
  rintro m V L S ⟨i,g,x21,s21,z16,hi,rfl,rfl,rfl,hz⟩;by_cases vH:i<o.asked.length
  ·obtain⟨q,hq⟩:∃q,o.asked[i]=q:=⟨_,rfl⟩
   have zj:=hO.asked q (hq▸cA vH);have oH:=Xf l ⟨self,handler,k,1,i⟩ q ab hl;have eE:i<=1000000000:=ab
   have eF:tick++jE l ⟨self,handler,k⟩ 0 (o.asked.take (i+1))=(tick++jE l ⟨self,handler,k⟩ 0 (o.asked.take i))++[gC ⟨self,handler,k,1,i⟩ q (fo l ⟨self,handler,k,1,i⟩ q)]:=by
    rw[List.take_succ_eq_append_getElem vH,agL,hq,dS,EM (Ah vH),List.append_assoc,eM];rfl
   have lE:(tick++jE l ⟨self,handler,k⟩ 0 (o.asked.take i)).length<=1+i:=by
    have:=(aD.XE l ⟨self,handler,k⟩ (o.asked.take i) 0 (fun x hx=>hO.asked x (uH hx)) bC).2;rw[List.length_append,this,dS];omega
   generalize tick++jE l ⟨self,handler,k⟩ 0 (o.asked.take i)=ak at eF lE⊢;have Yh:ak.length+1<=100000000:=ab;have FF:=EC @vH @hq @Yh (bT eE) @gP @tP @FO @Rl @Xs @Xu;refine bU oH ?_
   try clear FF
   exact⟨o.asked.length-(i+1),ab,i+1,g+1,_,_,z16,ab,ab,rfl,by rw[eF,cU];rfl,hz⟩
  obtain rfl:i=o.asked.length:=ab;rw[fx];generalize tick++jE l ⟨self,handler,k⟩ 0 o.asked=Bg at h⊢
  obtain⟨dn,iN⟩:∃dn:Nat,p.cZ=dn:=⟨p.cZ.toNat,ab⟩
  have hpd:((cz p).drop 41).take 1=[iA dn]:=by rw[art,iN]
  have lE:dn<=o.vars.length:=ab
  have Du:∀(ak sn fl aE:AC) (oo:List AC),((rC { s with clock:=s.clock+1+n } ak sn false 0 fl ⟨self,handler,k⟩ oo aE).drop (8+handler)).take 1=[iA k]:=fun ak sn fl aE oo=>by
   rw[aft _ _ _ _ _ _ _ _ _ h41]
   show [iA (s.counts.getD handler 0)]=[iA k]
   rw[db]
  have Yi:∀(ak sn fl aE:AC) (oo:List AC),(rC { s with clock:=s.clock+1+n } ak sn false 0 fl ⟨self,handler,k⟩ oo aE).take (8+handler)++iA (k+1)::(rC { s with clock:=s.clock+1+n } ak sn false 0 fl ⟨self,handler,k⟩ oo aE).drop (8+handler+1)=rC { s with clock:=s.clock+1+n,counts:=s.counts.set handler (k+1) } ak sn false 0 fl ⟨self,handler,k⟩ oo aE:=fun ak sn fl aE oo=>afw _ _ _ _ _ _ _ _ _ (k+1) h41 hlt
  have h67:8+handler+1<=67:=ab;have h66:8+handler<=66:=ab;have atN:8+handler<67:=ab;have Yj:=oC (a:=k) (b:=1) ab ab;rw[iN,iZ] at h;have FF:=abQ @vH @gP @tP @afv @Xu @h41 @agN @h67 @h66 @atN @Du @Yi @asg @Yj @hpd @lE @afx;refine Wu (aev (o.vars.drop dn) 16 ab) ?_
  try clear FF
  rw[afx ai ai]
  obtain⟨sN,hsN⟩:∃sN:aD.Node,sN={ s with clock:=s.clock+1+n,eO:=(o.vars.drop dn).take 16,counts:=s.counts.set handler (k+1) }:=⟨_,rfl⟩
  rw[<-hsN] at h⊢
  have lH:Na ⟨sN,Bg,[],false,0,[],⟨self,handler,k⟩,o,o.covered⟩ 0:=by
   have e1:=hN.qU;have e2:=hN.aY.lG;have e3:=hN.tV;rw[hsN];exact⟨by show s.aY.cells.length<=1000;omega,by show s.aY.pending.length<=1000;omega,by show s.timers.length<=1000;omega,cI _,cI _⟩
  have aDp:o.acts.length<=500:=by have:=hO.JH;omega
  refine dB (fun m V S=>∃(i g1 g2:Nat) (r1:Rr) (y18 y19 y21:AV) (t18 t21:Slot) (z:List AC),i<=o.acts.length/\m=o.acts.length-i/\tf r1 (o.acts.drop i)=some r/\Na r1 i/\r1.asks=Bg/\r1.fy=⟨self,handler,k⟩/\r1.out=o/\r1.covered=o.covered/\
   V=[(0,.w (.agg (aS s))),(1,.w (.agg (cz p))),(2,.w (.c (iA handler))),(3,.w (.c (iA self))),(4,.w (.c (iA nodes))),(5,.w (.c (iA drift))),(6,.w (.agg [iA n0,iA n1,iA n2,iA n3,iA n4,iA n5,iA n6,iA n7,iA n8])),(7,.w (.c (mJ l))),(8,.pb 8 1 0),(9,.pb 9 1 0),(14,.pb 14 1 0),(16,.pb 16 1 0),(17,.pb 17 1 0),(18,y18),(19,y19),(20,.w (.c (iA o.asked.length))),(21,y21),(22,.w (.c (iA i)))]/\
   S=[(8,.box 1 (aS s)),(9,.box 1 (cz p)),(14,.box 1 [iA self,iA nodes,iA (s.clock+1+n),iA n3,iA n4,iA n5,iA n6,iA n7,iA n8]),(16,.box 1 z),(17,.box 1 (rC r1.s (asks Bg) (.own 401 g1) r1.qE r1.value (.own 402 g2) ⟨self,handler,k⟩ (xm o) (ints o.covered))),(18,t18),(21,t21),(400,.dead g),(401,.row 184 9 g1 (r1.sent.map vA)),(402,.row 3 1 g2 (bL r1.bB))]/\z.length=67) (n:=o.acts.length)
   ⟨0,1,1,⟨sN,Bg,[],false,0,[],⟨self,handler,k⟩,o,o.covered⟩,_,_,_,_,_,_,ab,ab,h,lH,rfl,rfl,rfl,rfl,rfl,rfl,by simp[hz]⟩ ?_
  rintro m V L S ⟨i,g1,g2,r1,y18,y19,y21,t18,t21,z,hi,rfl,nj,dH,xn,zl,Nb,ha4,rfl,rfl,eB⟩;by_cases fb:i<o.acts.length
  ·obtain⟨a,ha⟩:∃a,o.acts[i]=a:=⟨_,rfl⟩
   rw[List.drop_eq_getElem_cons fb,ha] at nj;obtain⟨r2,fC,atO⟩:=atH nj;obtain⟨atP,q1,q2,q3,q4⟩:=atG fC dH;have eE:i<=1000000000:=ab;have hm:=atD r1 r2 a (asks Bg) (ints o.covered) (xm o) g1 g2 fC ai ai ai rfl (by have:=dH.cells;omega) (by have:=dH.MK;omega) (by have:=dH.tim;omega) (by have:=dH.sent;omega) (by have:=dH.fail;omega);rw[zl] at hm
   have nM:∀(n:aD.Node) (rep:Bool) (val:Int) (g1 g2:Nat),(rC n (asks Bg) (.own 401 g1) rep val (.own 402 g2) ⟨self,handler,k⟩ (xm o) (ints o.covered)).all (kL [401,402])=true:=fun n rep val g1 g2=>atF ai ai ai
   have FF:=xZ @fb @ha @gP @tP @agJ @Xt @nM (bT eE);refine bU hm ?_
   try clear FF
   exact⟨o.acts.length-(i+1),ab,i+1,_,_,r2,y18,y19,y21,t18,t21,z,ab,ab,atO,atP,q1.trans xn,q2.trans zl,q3.trans Nb,q4.trans ha4,rfl,rfl,eB⟩
  ·have Fh:i=o.acts.length:=ab;rw[Fh,IA] at nj;simp only[tf,aC] at nj;subst nj;have Yk:z.drop 67=[]:=sV ab;have FF:=gA @fb @gP @tP @Xt @eB @Yk
   try refine aJ ?_
   try clear FF
   (try dsimp only[lZ,lA])
   have Nc:∀(V L:List (Nat×AV)) (S:List (Nat×Slot)),aH S 401=some (.row 184 9 g1 (r1.sent.map vA))->aH S 402=some (.row 3 1 g2 (bL r1.bB))->St.jo ⟨V,L,S⟩ (rC r1.s (asks Bg) (.own 401 g1) r1.qE r1.value (.own 402 g2) ⟨self,handler,k⟩ (xm o) (ints o.covered))=some (rC r1.s (asks Bg) (jr r1.sent) r1.qE r1.value (ints r1.bB) ⟨self,handler,k⟩ (xm o) (ints o.covered)):=fun V L S h1 h2=>
    afy ai ai ai (by simp[h1]) (by simp[h2])
   exact jJ (xs:=[.agg (rC r1.s (asks Bg) (jr r1.sent) r1.qE r1.value (ints r1.bB) ⟨self,handler,k⟩ (xm o) (ints o.covered))]) (by simp[gP,tP,Nc]) (by rw[xn,zl,Nb,ha4];rfl)
end Ab
end Go.Proofs.YtngblilamkkikaaGreatDoor
