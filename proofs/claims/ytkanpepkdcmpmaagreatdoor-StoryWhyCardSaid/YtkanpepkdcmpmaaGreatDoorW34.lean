import Derived.Test.YtkanpepkdcmpmaaGreatDoorW26
import Derived.Test.YtkanpepkdcmpmaaGreatDoorW24
import Derived.Test.YtkanpepkdcmpmaaGreatDoorW8
set_option maxHeartbeats 40000000
set_option maxRecDepth 100000
set_option linter.all false
namespace Go.Proofs.YtkanpepkdcmpmaaGreatDoor
namespace Ab
open Go Go.RowKit mQ
attribute [local irreducible] aP bB aW
open aD (gA eW Rr aU uQ uR kG iw yl pD gB uP zY yj)
open aD (ko rp YO Tc vG tX)
theorem abI:∀(l:List (Int×Int)) (c r:List Int),aD.kF c l=some r->r.length=c.length
 |[],c,r,h=>by
  simp only[aD.kF,aA] at h;rw[h]
 |x::l,c,r,h=>by
  obtain⟨_,_,h3⟩:=Om (i:=x.1) (v:=x.2) h;have:=abI l _ _ h3;simpa using this
theorem akZ (n:aD.Node)(ak sn:AC)(rep:Bool)(val:Int)(fl:AC)(c:aU)(aE o0 o1 o2 o3 o4 o5:AC):(rC n ak sn rep val fl c [o0,o1,o2,o3,o4,o5] aE).drop 67=[]:=uG (by rw[iO];exact cP _)
theorem PR {D:List Nat}:∀{cs:List AC},cs.all inl=true->cs.all (lR D)=true
 |[],_=>rfl
 |c::cs,h=>by
  simp only[BR,bZ] at h;rw[BR,PR h.2,Bool.and_true]
  cases c with
  |own s g=>cases h.1
  |cK s g=>cases h.1
  |part s g i=>cases h.1
  |cls f cn=>cases h.1
  |fV f cn=>rfl
  |v x=>rfl
  |sl es=>rfl
theorem azY {n:aD.Node}{ak:AC}{g1 g2:Nat}{rep:Bool}{val:Int}{c:aU}{o:List AC}{aE:AC}(Bk:inl ak=true)(ho:o.all inl=true)(vX:inl aE=true):(rC n ak (.own 401 g1) rep val (.own 402 g2) c o aE).all (lR [401,402])=true:=by
 rw[eN,List.all_append,PR (Ue n),List.all_append,List.all_append,PR ho,PR (cs:=[aE]) (by simp[vX])];have h1:=PR (D:=[401,402]) (cs:=[ak]) (by simp[Bk]);simp only[BR,List.all_nil,Bool.and_true] at h1;simp only[BR,List.all_nil,h1];rfl
structure PT (r:Rr)(m:Nat):Prop where
 cells:r.s.aY.cells.length<=1000
 OD:r.s.aY.pending.length<=1000
 tim:r.s.timers.length<=1000
 sent:r.sent.length<=m
 fail:r.bH.length<=m
theorem ala (l:List Int)(k:Int)(set:Bool):(aD.zZ l k set).length<=8:=by
 unfold aD.zZ;exact bm (oc _ _) ai
theorem azZ {r r':Rr}{a:gA}{m:Nat}(h:uQ r a=some r')(hb:PT r m):PT r' (m+1)/\r'.asks=r.asks/\r'.gJ=r.gJ/\r'.out=r.out/\r'.covered=r.covered:=by
 obtain⟨b1,b2,b3,b4,b5⟩:=hb
 have d:∀(d:aD.jT),d.cells.length<=1000->d.pending.length<=1000->PT { r with s:={ r.s with aY:=d } } (m+1):=fun d g1 g2=>⟨g1,g2,b3,rY b4,rY b5⟩
 unfold uQ at h;split at h
 ·simp only[bU] at h;obtain⟨x,hx,rfl⟩:=h;refine⟨?_,rfl,rfl,rfl,rfl⟩;unfold aD.yk at hx;split at hx
  ·cases hx;exact d _ b1 b2
  ·split at hx
   ·simp only[bU] at hx;obtain⟨c,hc,rfl⟩:=hx;exact d _ (by have:=abI _ _ _ hc;show c.length<=1000;omega) (by simp;exact b2)
   ·rename_i h4;cases hx;refine d _ b1 ?_
    show(r.s.aY.pending++[(a.a,a.b)]).length<=1000
    omega
 ·split at h
  ·simp only[bU] at h;obtain⟨x,hx,rfl⟩:=h;refine⟨?_,rfl,rfl,rfl,rfl⟩;unfold aD.zX aD.wU at hx;simp only[bU] at hx;obtain⟨c,hc,rfl⟩:=hx;exact d _ (by have:=abI _ _ _ hc;show c.length<=1000;omega) ai
  ·repeat' split at h
   all_goals
    simp only[aA] at h;subst h;refine⟨?_,rfl,rfl,rfl,rfl⟩
   ·exact⟨b1,b2,bm (ala _ _ _) ab,rY b4,rY b5⟩
   ·exact⟨b1,b2,bm (ala _ _ _) ab,rY b4,rY b5⟩
   ·exact⟨b1,b2,b3,by simp;omega,rY b5⟩
   ·exact⟨b1,b2,b3,rY b4,rY b5⟩
   ·exact⟨b1,b2,b3,rY b4,rY b5⟩
   ·exact⟨b1,b2,b3,rY b4,by simp;omega⟩
   ·exact⟨b1,b2,b3,rY b4,rY b5⟩
theorem alb (l:List aL)(c:aU):∀(a b:List Int) (j:Nat),kG l c j (a++b)=kG l c j a++kG l c (j+a.length) b
 |[],b,j=>by simp[kG]
 |x::a,b,j=>by
  simp only[List.cons_append,kG,alb l c a b (j+1),List.length_cons];rw[show j+1+a.length=j+(a.length+1) by omega]
theorem aAa {r r2:Rr}{a:gA}{l:List gA}(h:uR r (a::l)=some r2):∃r1,uQ r a=some r1/\uR r1 l=some r2:=by
 unfold uR at h;split at h
 ·cases h
 ·rename_i r1 h1;exact⟨r1,h1,h⟩
theorem alc {ps:List Prog}{fM kk:Nat}{s:aD.Node}(hN:ko ps fM kk s){p:Prog}(hp:ps[s.version.toNat]? =some p)(hs:rp p=true)(gC:s.up=true){handler:Nat}(hh:handler<40){self nodes drift:Int}(Cy:aD.bD self=true)(AP:aD.bD nodes=true)(ll:0<=drift/\drift<=3){n0 n1 n2 n3 n4 n5 n6 n7 n8:Int}(dZ:∀x∈[n0,n1,n2,n3,n4,n5,n6,n7,n8],aD.bD x=true){l:List aL}(gK:kk<=5000)(hl:l.length<=1000000){r:Rr}(h:pD s p handler self nodes drift [n0,n1,n2,n3,n4,n5,n6,n7,n8] l=some r):
  bj Tryz.prog 199 [.agg (aS s),.agg (cM p),.c (iA handler),.c (iA self),.c (iA nodes),.c (iA drift),.agg [iA n0,iA n1,iA n2,iA n3,iA n4,iA n5,iA n6,iA n7,iA n8],.c (nV l)] (fun x=>x=.w (.agg (rC r.s (asks r.asks) (.sl (r.sent.map xl)) r.sq r.value (ints r.bH) r.gJ (zk r.out) (ints r.covered)))):=by
 have hlt:handler<s.counts.length:=by rw[hN.nc];omega
 have ox:=hN.counts _ (bW hlt)
 have hce:s.counts[handler]? =some s.counts[handler]:=by simp[hlt]
 have dw:s.counts.getD handler 0=s.counts[handler]:=by rw[fC,hce];rfl
 have atX:=hN.clock;have ou:=aaF s (show handler<41 by omega);rw[dw] at ou;unfold pD at h;rw[hce] at h;generalize s.counts[handler]=k at ox hce dw ou h;dsimp only at h;obtain⟨vars,ji,pQ,yP⟩:=Tc hN;rw[ji] at h;dsimp only at h;have h41:handler<41:=ab;have h52:8+handler+1<=52:=ab;have h51:8+handler<=51:=ab;have aAb:8+handler<52:=ab;have ald:(handler:Int)<41:=ab;have aAc:=oX (a:=s.clock) (b:=1) ab ab
 have uZ:vars.length<=1000000:=by have:=hN.sL;have:=hN.AM;omega
 obtain⟨tick,n,AQ,cK⟩:∃(tick:List Ask) (n:Int),tick=(if 0<drift then [iw ⟨self,handler,k,2,0⟩ (drift+1) n] else [])/\n=(if 0<drift then gB l ⟨self,handler,k,2,0⟩ (drift+1) else 0):=⟨_,_,rfl,rfl⟩
 have CP:0<=n/\n<=3:=by
  rw[cK];split
  ·have:=aD.Iq l ⟨self,handler,k,2,0⟩ (show 0<drift+1 by omega);omega
  ·omega
 simp only[aD.aU.qn] at h;rw[<-cK,<-AQ] at h;split at h
 ·cases h
 rename_i o ho;split at h
 case isFalse=>cases h
 rename_i hdu;have eD:=(hN.run gC).2 p hp
 obtain⟨o',sg,hO,ud,hst⟩:=YO hs hh (vars:=vars) (names:=yl [n0,n1,n2,n3,n4,n5,n6,n7,n8] self nodes (s.clock+1+n)) (answers:=uP l ⟨self,handler,k⟩) ab yP rfl (fun x hx=>by
  have hx:x∈[self,nodes,s.clock+1+n,n3,n4,n5,n6,n7,n8]:=hx;simp only[cA,jL,kV] at hx
  rcases hx with rfl|rfl|rfl|rfl|rfl|rfl|rfl|rfl|rfl
  ·exact Cy
  ·exact AP
  ·rw[aD.vF];omega
  all_goals exact dZ _ ai)
 rw[ho] at sg;cases sg
 have aAd:(uP l ⟨self,handler,k⟩).length<=1000000:=by unfold uP;simp;omega
 have agX:p.code.length<=1000000:=by
  have iz:=hs;unfold rp at iz;simp only[bZ,dv] at iz;have:=iz.2;omega
 have hrun:bj Tryz.prog 253 [.agg (cM p),.c (iA handler),.c (ints vars),.agg [iA self,iA nodes,iA (s.clock+1+n),iA n3,iA n4,iA n5,iA n6,iA n7,iA n8],.c (ints (uP l ⟨self,handler,k⟩))] (fun x=>x=.w (.agg (zk o))):=axV p handler vars _ _ o ho hh rfl uZ aAd agX;have aAe:=ajk s vars ji (by have:=hN.sL;omega) (by have:=hN.aY.mI;omega) (by have:=hN.AM;omega);have Ae:=ayk l ⟨self,handler,k⟩ hl;refine cI Tryz.func199 ⟨0,[],[(255,[401,402])],[(20,[400])],cZ,[(31,[52,53,56])],[(2,[(17,52,400,78,7),(17,53,401,208,9),(17,56,402,3,1)])]⟩ [tm 1 9,(11,9,tk 0 3 (tk 4 4 (.move 3 (.move 8 .nil))),[]),(17,20,tk 0 17 (.move 17 (tk 18 1 (.move 19 .nil))),[]),tz 23 7] [.cell 16 67] [8,9,14,16,17,18,19,20,21,22] [8,9,14,16,17,18,21,400,401,402] ?_;have FF:=Wu @h41 @ald @h52 @h51 @aAb @ou @ajs @iO @vV @ajx @ajt @ayv @ayw @aju @ayx @ayy @aaN @ajv @aAc
 try refine aG ?_
 try clear FF
 by_cases hd:0<drift
 case' pos=>
  rw[aj hd] at AQ cK;have hq:=aD.Iq l ⟨self,handler,k,2,0⟩ (show 0<drift+1 by omega);rw[<-cK] at hq;have pU:=aaE l ⟨self,handler,k,2,0⟩ (drift+1) ab hl;rw[<-cK] at pU;have d1:=oX (a:=drift) (b:=1) ab ab;have d2:=oX (a:=s.clock+1) (b:=n) ab ab;have FF:=Gg @hd @d1 @d2 @iO @vV @aaN @ajv @Ui @aaO @Jk;refine bY pU ?_
  try clear FF
  obtain⟨g4,MF⟩:∃g4:Nat,g4=2:=⟨_,rfl⟩
  rw[show [[iA self,iA ↑handler,iA k,AC.v (Value.int IntKind.i64 2),AC.v (Value.int IntKind.i64 0),AC.v (Value.int IntKind.i64 (drift+1)),iA n]]=tick.map eL from by rw[AQ];rfl,show AC.own 400 2=AC.own 400 g4 by rw[MF],show∀x,Slot.row 78 7 2 x=Slot.row 78 7 g4 x from fun x=>by rw[MF]];generalize Slot.box 1 [iA self,iA ↑handler,iA k,AC.v (Value.int IntKind.i64 2),AC.v (Value.int IntKind.i64 0)]=s18;generalize AV.w (AW.c (iA n))=x19;generalize AV.pb 18 1 0=x18;have CP:0<=n/\n<=3:=ab
 case' neg=>
  rw[af hd] at AQ cK;have FF:=@hd
  try refine aG ?_
  try clear FF
  obtain⟨g4,MF⟩:∃g4:Nat,g4=1:=⟨_,rfl⟩
  rw[show Slot.row 78 7 1 []=Slot.row 78 7 g4 (tick.map eL) from by rw[AQ,MF];rfl,show AC.own 400 1=AC.own 400 g4 by rw[MF],show s.clock+1=s.clock+1+n by omega]
  obtain⟨x18,h18⟩:∃x18,x18=AV.u:=⟨_,rfl⟩
  obtain⟨x19,h19⟩:∃x19,x19=AV.u:=⟨_,rfl⟩
  obtain⟨s18,ale⟩:∃s18,s18=Slot.dead 0:=⟨_,rfl⟩
  rw[show((18:Nat),AV.u)=(18,x18) by rw[h18],show((19:Nat),AV.u)=(19,x19) by rw[h19],show((18:Nat),Slot.dead 0)=(18,s18) by rw[ale]];have CP:0<=n/\n<=3:=ab;clear h18 h19 ale
 all_goals
  clear MF;have FF:=Ws @iO @vV @aaN @Jk @ayA @ayB @akZ @ajy @aaP @ayC @ayD @ayE @aaQ;refine yK aAe Ae hrun ?_
  try clear FF
  have kD:tick.length<=1:=by rw[AQ];simp
  clear AQ cK;rw[show Slot.row 78 7 g4 (tick.map eL)=Slot.row 78 7 g4 ((tick++kG l ⟨self,handler,k⟩ 0 (o.asked.take 0)).map eL) by simp[kG]]
  refine dA (fun m V S=>∃(i g:Nat) (x21:AV) (s21:Slot) (z16:List AC),i<=o.asked.length/\m=o.asked.length-i/\
   V=[(0,.w (.agg (aS s))),(1,.w (.agg (cM p))),(2,.w (.c (iA handler))),(3,.w (.c (iA self))),(4,.w (.c (iA nodes))),(5,.w (.c (iA drift))),(6,.w (.agg [iA n0,iA n1,iA n2,iA n3,iA n4,iA n5,iA n6,iA n7,iA n8])),(7,.w (.c (nV l))),(8,.pb 8 1 0),(9,.pb 9 1 0),(14,.pb 14 1 0),(16,.pb 16 1 0),(17,.pb 17 1 0),(18,x18),(19,x19),(20,.w (.c (iA i))),(21,x21),(22,.u)]/\
   S=[(8,.box 1 (aS s)),(9,.box 1 (cM p)),(14,.box 1 [iA self,iA nodes,iA (s.clock+1+n),iA n3,iA n4,iA n5,iA n6,iA n7,iA n8]),(16,.box 1 z16),(17,.box 1 (rC { s with clock:=s.clock+1+n } (.own 400 g) (.own 401 1) false 0 (.own 402 1) ⟨self,handler,k⟩ (zk o) (ints o.covered))),(18,s18),(21,s21),(400,.row 78 7 g ((tick++kG l ⟨self,handler,k⟩ 0 (o.asked.take i)).map eL)),(401,.row 208 9 1 []),(402,.row 3 1 1 [])]/\z16.length=67) (n:=o.asked.length) ⟨0,g4,.u,.dead 0,_,ab,ab,rfl,rfl,eH⟩ ?_
  rintro m V L S ⟨i,g,x21,s21,z16,hi,rfl,rfl,rfl,hz⟩;by_cases xp:i<o.asked.length
  ·obtain⟨q,hq⟩:∃q,o.asked[i]=q:=⟨_,rfl⟩
   have Be:=hO.asked q (hq▸bW xp);have pU:=aaE l ⟨self,handler,k,1,i⟩ q ab hl;have eS:i<=1000000000:=ab
   have fw:tick++kG l ⟨self,handler,k⟩ 0 (o.asked.take (i+1))=(tick++kG l ⟨self,handler,k⟩ 0 (o.asked.take i))++[iw ⟨self,handler,k,1,i⟩ q (gB l ⟨self,handler,k,1,i⟩ q)]:=by
    rw[List.take_succ_eq_append_getElem xp,alb,hq,dN,Gv (BU xp),List.append_assoc,eP];rfl
   have fB:(tick++kG l ⟨self,handler,k⟩ 0 (o.asked.take i)).length<=1+i:=by
    have:=(aD.YS l ⟨self,handler,k⟩ (o.asked.take i) 0 (fun x hx=>hO.asked x (tC hx)) bz).2;rw[List.length_append,this,dN];omega
   generalize tick++kG l ⟨self,handler,k⟩ 0 (o.asked.take i)=ak at fw fB⊢;have abJ:ak.length+1<=100000000:=ab;have FF:=Gg @xp @hq @abJ (bT eS) @iO @vV @Jk @Ui @aaO @aaQ;refine bY pU ?_
   try clear FF
   exact⟨o.asked.length-(i+1),ab,i+1,g+1,_,_,z16,ab,ab,rfl,by rw[fw,dm];rfl,hz⟩
  obtain rfl:i=o.asked.length:=ab;rw[fT];generalize tick++kG l ⟨self,handler,k⟩ 0 o.asked=Di at h⊢
  obtain⟨dn,eK⟩:∃dn:Nat,p.dK=dn:=⟨p.dK.toNat,ab⟩
  have hpd:((cM p).drop 41).take 1=[iA dn]:=by rw[axI,eK]
  have fB:dn<=o.vars.length:=ab
  have FG:∀(ak sn fl aE:AC) (oo:List AC),((rC { s with clock:=s.clock+1+n } ak sn false 0 fl ⟨self,handler,k⟩ oo aE).drop (8+handler)).take 1=[iA k]:=fun ak sn fl aE oo=>by
   rw[ajw _ _ _ _ _ _ _ _ _ h41]
   show [iA (s.counts.getD handler 0)]=[iA k]
   rw[dw]
  have abK:∀(ak sn fl aE:AC) (oo:List AC),(rC { s with clock:=s.clock+1+n } ak sn false 0 fl ⟨self,handler,k⟩ oo aE).take (8+handler)++iA (k+1)::(rC { s with clock:=s.clock+1+n } ak sn false 0 fl ⟨self,handler,k⟩ oo aE).drop (8+handler+1)=rC { s with clock:=s.clock+1+n,counts:=s.counts.set handler (k+1) } ak sn false 0 fl ⟨self,handler,k⟩ oo aE:=fun ak sn fl aE oo=>ajz _ _ _ _ _ _ _ _ _ (k+1) h41 hlt
  have h67:8+handler+1<=67:=ab;have h66:8+handler<=66:=ab;have aAf:8+handler<67:=ab;have ck1:=oX (a:=k) (b:=1) ab ab;rw[eK,gF] at h;have FF:=adG @xp @iO @vV @ajy @aaQ @h41 @ald @h67 @h66 @aAf @FG @abK @ayz @ck1 @hpd @fB @ajA;refine Yd (agi (o.vars.drop dn) 16 ab) ?_
  try clear FF
  rw[ajA ai ai]
  obtain⟨sN,hsN⟩:∃sN:aD.Node,sN={ s with clock:=s.clock+1+n,fJ:=(o.vars.drop dn).take 16,counts:=s.counts.set handler (k+1) }:=⟨_,rfl⟩
  rw[<-hsN] at h⊢
  have fQ:PT ⟨sN,Di,[],false,0,[],⟨self,handler,k⟩,o,o.covered⟩ 0:=by
   have e1:=hN.sL;have e2:=hN.aY.mI;have e3:=hN.vH;rw[hsN];exact⟨by show s.aY.cells.length<=1000;omega,by show s.aY.pending.length<=1000;omega,by show s.timers.length<=1000;omega,cP _,cP _⟩
  have aGU:o.acts.length<=500:=by have:=hO.Lp;omega
  refine dA (fun m V S=>∃(i g1 g2:Nat) (r1:Rr) (y18 y19 y21:AV) (t18 t21:Slot) (z:List AC),i<=o.acts.length/\m=o.acts.length-i/\uR r1 (o.acts.drop i)=some r/\PT r1 i/\r1.asks=Di/\r1.gJ=⟨self,handler,k⟩/\r1.out=o/\r1.covered=o.covered/\
   V=[(0,.w (.agg (aS s))),(1,.w (.agg (cM p))),(2,.w (.c (iA handler))),(3,.w (.c (iA self))),(4,.w (.c (iA nodes))),(5,.w (.c (iA drift))),(6,.w (.agg [iA n0,iA n1,iA n2,iA n3,iA n4,iA n5,iA n6,iA n7,iA n8])),(7,.w (.c (nV l))),(8,.pb 8 1 0),(9,.pb 9 1 0),(14,.pb 14 1 0),(16,.pb 16 1 0),(17,.pb 17 1 0),(18,y18),(19,y19),(20,.w (.c (iA o.asked.length))),(21,y21),(22,.w (.c (iA i)))]/\
   S=[(8,.box 1 (aS s)),(9,.box 1 (cM p)),(14,.box 1 [iA self,iA nodes,iA (s.clock+1+n),iA n3,iA n4,iA n5,iA n6,iA n7,iA n8]),(16,.box 1 z),(17,.box 1 (rC r1.s (asks Di) (.own 401 g1) r1.sq r1.value (.own 402 g2) ⟨self,handler,k⟩ (zk o) (ints o.covered))),(18,t18),(21,t21),(400,.dead g),(401,.row 208 9 g1 (r1.sent.map xl)),(402,.row 3 1 g2 (bM r1.bH))]/\z.length=67) (n:=o.acts.length)
   ⟨0,1,1,⟨sN,Di,[],false,0,[],⟨self,handler,k⟩,o,o.covered⟩,_,_,_,_,_,_,ab,ab,h,fQ,rfl,rfl,rfl,rfl,rfl,rfl,by simp[hz]⟩ ?_
  rintro m V L S ⟨i,g1,g2,r1,y18,y19,y21,t18,t21,z,hi,rfl,mS,eQ,zi,Bj,PU,ha4,rfl,rfl,fy⟩;by_cases db:i<o.acts.length
  ·obtain⟨a,ha⟩:∃a,o.acts[i]=a:=⟨_,rfl⟩
   rw[List.drop_eq_getElem_cons db,ha] at mS;obtain⟨r2,eD,aAg⟩:=aAa mS;obtain⟨aAh,q1,q2,q3,q4⟩:=azZ eD eQ;have eS:i<=1000000000:=ab;have hm:=ayX r1 r2 a (asks Di) (ints o.covered) (zk o) g1 g2 eD ai ai ai rfl (by have:=eQ.cells;omega) (by have:=eQ.OD;omega) (by have:=eQ.tim;omega) (by have:=eQ.sent;omega) (by have:=eQ.fail;omega);rw[Bj] at hm
   have oV:∀(n:aD.Node) (rep:Bool) (val:Int) (g1 g2:Nat),(rC n (asks Di) (.own 401 g1) rep val (.own 402 g2) ⟨self,handler,k⟩ (zk o) (ints o.covered)).all (lR [401,402])=true:=fun n rep val g1 g2=>azY ai ai ai
   have FF:=wI @db @ha @iO @vV @akZ @aaP @oV (bT eS);refine bY hm ?_
   try clear FF
   exact⟨o.acts.length-(i+1),ab,i+1,_,_,r2,y18,y19,y21,t18,t21,z,ab,ab,aAg,aAh,q1.trans zi,q2.trans Bj,q3.trans PU,q4.trans ha4,rfl,rfl,fy⟩
  ·have GU:i=o.acts.length:=ab;rw[GU,Kl] at mS;simp only[uR,aA] at mS;subst mS;have hzd:z.drop 67=[]:=uG ab;have FF:=gR @db @iO @vV @aaP @fy @hzd
   try refine aG ?_
   try clear FF
   (try dsimp only[lT,mD])
   have IM:∀(V L:List (Nat×AV)) (S:List (Nat×Slot)),aJ S 401=some (.row 208 9 g1 (r1.sent.map xl))->aJ S 402=some (.row 3 1 g2 (bM r1.bH))->St.jY ⟨V,L,S⟩ (rC r1.s (asks Di) (.own 401 g1) r1.sq r1.value (.own 402 g2) ⟨self,handler,k⟩ (zk o) (ints o.covered))=some (rC r1.s (asks Di) (kj r1.sent) r1.sq r1.value (ints r1.bH) ⟨self,handler,k⟩ (zk o) (ints o.covered)):=fun V L S h1 h2=>
    ajB ai ai ai (by simp[h1]) (by simp[h2])
   exact kJ (xs:=[.agg (rC r1.s (asks Di) (kj r1.sent) r1.sq r1.value (ints r1.bH) ⟨self,handler,k⟩ (zk o) (ints o.covered))]) (by simp[iO,vV,IM]) (by rw[zi,Bj,PU,ha4];rfl)
end Ab
end Go.Proofs.YtkanpepkdcmpmaaGreatDoor
