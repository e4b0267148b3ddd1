import Derived.Test.YtkanpepkdcmpmaaGreatDoorY21
import Derived.Test.YtkanpepkdcmpmaaGreatDoorY19
import Derived.Test.YtkanpepkdcmpmaaGreatDoorY6
set_option maxHeartbeats 40000000
set_option maxRecDepth 100000
set_option linter.all false
namespace Go.Proofs.YtkanpepkdcmpmaaGreatDoor
namespace Ab
open Go Go.RowKit mG
attribute [local irreducible] aM bt aX
open aD (fW eP Rr aT uO uP kz ig yq po fX uN zV yn)
open aD (jV qX YG SQ vD tW)
theorem abB:∀(l:List (Int×Int)) (c r:List Int),aD.ky c l=some r->r.length=c.length
 |[],c,r,h=>by
  simp only[aD.ky,aA] at h;rw[h]
 |x::l,c,r,h=>by
  obtain⟨_,_,h3⟩:=NZ (i:=x.1) (v:=x.2) h;have:=abB l _ _ h3;simpa using this
theorem akN (n:aD.Node)(ak sn:AC)(rep:Bool)(val:Int)(fl:AC)(c:aT)(aE o0 o1 o2 o3 o4 o5:AC):(rC n ak sn rep val fl c [o0,o1,o2,o3,o4,o5] aE).drop 67=[]:=uF (by rw[iG];exact cK _)
theorem PE {D:List Nat}:∀{cs:List AC},cs.all inl=true->cs.all (lG D)=true
 |[],_=>rfl
 |c::cs,h=>by
  simp only[BJ,bV] at h;rw[BJ,PE h.2,Bool.and_true]
  cases c with
  |own s g=>cases h.1
  |cP s g=>cases h.1
  |part s g i=>cases h.1
  |cls f bZ=>cases h.1
  |fM f bZ=>rfl
  |v x=>rfl
  |sl es=>rfl
theorem azS {n:aD.Node}{ak:AC}{g1 g2:Nat}{rep:Bool}{val:Int}{c:aT}{o:List AC}{aE:AC}(AZ:inl ak=true)(ho:o.all inl=true)(vV:inl aE=true):(rC n ak (.own 401 g1) rep val (.own 402 g2) c o aE).all (lG [401,402])=true:=by
 rw[eJ,List.all_append,PE (TU n),List.all_append,List.all_append,PE ho,PE (cs:=[aE]) (by simp[vV])];have h1:=PE (D:=[401,402]) (cs:=[ak]) (by simp[AZ]);simp only[BJ,List.all_nil,Bool.and_true] at h1;simp only[BJ,List.all_nil,h1];rfl
structure PF (r:Rr)(m:Nat):Prop where
 cells:r.s.aZ.cells.length<=1000
 Oq:r.s.aZ.pending.length<=1000
 tim:r.s.timers.length<=1000
 sent:r.sent.length<=m
 fail:r.bC.length<=m
theorem akO (l:List Int)(k:Int)(set:Bool):(aD.zW l k set).length<=8:=by
 unfold aD.zW;exact bj (nQ _ _) ai
theorem azT {r r':Rr}{a:fW}{m:Nat}(h:uO r a=some r')(hb:PF r m):PF r' (m+1)/\r'.asks=r.asks/\r'.gB=r.gB/\r'.out=r.out/\r'.covered=r.covered:=by
 obtain⟨b1,b2,b3,b4,b5⟩:=hb
 have d:∀(d:aD.jL),d.cells.length<=1000->d.pending.length<=1000->PF { r with s:={ r.s with aZ:=d } } (m+1):=fun d g1 g2=>⟨g1,g2,b3,rQ b4,rQ b5⟩
 unfold uO at h;split at h
 ·simp only[bO] at h;obtain⟨x,hx,rfl⟩:=h;refine⟨?_,rfl,rfl,rfl,rfl⟩;unfold aD.yo at hx;split at hx
  ·cases hx;exact d _ b1 b2
  ·split at hx
   ·simp only[bO] at hx;obtain⟨c,hc,rfl⟩:=hx;exact d _ (by have:=abB _ _ _ hc;show c.length<=1000;omega) (by simp;exact b2)
   ·rename_i h4;cases hx;refine d _ b1 ?_
    show(r.s.aZ.pending++[(a.a,a.b)]).length<=1000
    omega
 ·split at h
  ·simp only[bO] at h;obtain⟨x,hx,rfl⟩:=h;refine⟨?_,rfl,rfl,rfl,rfl⟩;unfold aD.zU aD.wR at hx;simp only[bO] at hx;obtain⟨c,hc,rfl⟩:=hx;exact d _ (by have:=abB _ _ _ hc;show c.length<=1000;omega) ai
  ·repeat' split at h
   all_goals
    simp only[aA] at h;subst h;refine⟨?_,rfl,rfl,rfl,rfl⟩
   ·exact⟨b1,b2,bj (akO _ _ _) ab,rQ b4,rQ b5⟩
   ·exact⟨b1,b2,bj (akO _ _ _) ab,rQ b4,rQ b5⟩
   ·exact⟨b1,b2,b3,by simp;omega,rQ b5⟩
   ·exact⟨b1,b2,b3,rQ b4,rQ b5⟩
   ·exact⟨b1,b2,b3,rQ b4,rQ b5⟩
   ·exact⟨b1,b2,b3,rQ b4,by simp;omega⟩
   ·exact⟨b1,b2,b3,rQ b4,rQ b5⟩
theorem akP (l:List aL)(c:aT):∀(a b:List Int) (j:Nat),kz l c j (a++b)=kz l c j a++kz l c (j+a.length) b
 |[],b,j=>by simp[kz]
 |x::a,b,j=>by
  simp only[List.cons_append,kz,akP l c a b (j+1),List.length_cons];rw[show j+1+a.length=j+(a.length+1) by omega]
theorem azU {r r2:Rr}{a:fW}{l:List fW}(h:uP r (a::l)=some r2):∃r1,uO r a=some r1/\uP r1 l=some r2:=by
 unfold uP at h;split at h
 ·cases h
 ·rename_i r1 h1;exact⟨r1,h1,h⟩
theorem akQ {ps:List Prog}{fB kk:Nat}{s:aD.Node}(hN:jV ps fB kk s){p:Prog}(hp:ps[s.version.toNat]? =some p)(hs:qX p=true)(fY:s.up=true){handler:Nat}(hh:handler<40){self nodes drift:Int}(Cp:aD.bu self=true)(AA:aD.bu nodes=true)(kU:0<=drift/\drift<=3){n0 n1 n2 n3 n4 n5 n6 n7 n8:Int}(dW:∀x∈[n0,n1,n2,n3,n4,n5,n6,n7,n8],aD.bu x=true){l:List aL}(gC:kk<=5000)(hl:l.length<=1000000){r:Rr}(h:po s p handler self nodes drift [n0,n1,n2,n3,n4,n5,n6,n7,n8] l=some r):
  aU Tryz.prog 199 [.agg (aR s),.agg (cI p),.c (iA handler),.c (iA self),.c (iA nodes),.c (iA drift),.agg [iA n0,iA n1,iA n2,iA n3,iA n4,iA n5,iA n6,iA n7,iA n8],.c (nL l)] (fun x=>x=.w (.agg (rC r.s (asks r.asks) (.sl (r.sent.map xt)) r.sb r.value (ints r.bC) r.gB (zk r.out) (ints r.covered)))):=by
 have hlt:handler<s.counts.length:=by rw[hN.nc];omega
 have nY:=hN.counts _ (bP hlt)
 have hce:s.counts[handler]? =some s.counts[handler]:=by simp[hlt]
 have dp:s.counts.getD handler 0=s.counts[handler]:=by rw[fo,hce];rfl
 have atM:=hN.clock;have nW:=aaC s (show handler<41 by omega);rw[dp] at nW;unfold po at h;rw[hce] at h;generalize s.counts[handler]=k at nY hce dp nW h;dsimp only at h;obtain⟨vars,iZ,pI,yQ⟩:=SQ hN;rw[iZ] at h;dsimp only at h;have h41:handler<41:=ab;have h52:8+handler+1<=52:=ab;have h51:8+handler<=51:=ab;have azV:8+handler<52:=ab;have akR:(handler:Int)<41:=ab;have azW:=oO (a:=s.clock) (b:=1) ab ab
 have uW:vars.length<=1000000:=by have:=hN.sH;have:=hN.Az;omega
 obtain⟨tick,n,AB,cP⟩:∃(tick:List Ask) (n:Int),tick=(if 0<drift then [ig ⟨self,handler,k,2,0⟩ (drift+1) n] else [])/\n=(if 0<drift then fX l ⟨self,handler,k,2,0⟩ (drift+1) else 0):=⟨_,_,rfl,rfl⟩
 have CF:0<=n/\n<=3:=by
  rw[cP];split
  ·have:=aD.Ig l ⟨self,handler,k,2,0⟩ (show 0<drift+1 by omega);omega
  ·omega
 simp only[aD.aT.qn] at h;rw[<-cP,<-AB] at h;split at h
 ·cases h
 rename_i o ho;split at h
 case isFalse=>cases h
 rename_i hdu;have eA:=(hN.run fY).2 p hp
 obtain⟨o',rW,hO,ud,hst⟩:=YG hs hh (vars:=vars) (names:=yq [n0,n1,n2,n3,n4,n5,n6,n7,n8] self nodes (s.clock+1+n)) (answers:=uN l ⟨self,handler,k⟩) ab yQ rfl (fun x hx=>by
  have hx:x∈[self,nodes,s.clock+1+n,n3,n4,n5,n6,n7,n8]:=hx;simp only[cz,jD,kL] at hx
  rcases hx with rfl|rfl|rfl|rfl|rfl|rfl|rfl|rfl|rfl
  ·exact Cp
  ·exact AA
  ·rw[aD.vC];omega
  all_goals exact dW _ ai)
 rw[ho] at rW;cases rW
 have azX:(uN l ⟨self,handler,k⟩).length<=1000000:=by unfold uN;simp;omega
 have agP:p.code.length<=1000000:=by
  have ik:=hs;unfold qX at ik;simp only[bV,dh] at ik;have:=ik.2;omega
 have hrun:aU Tryz.prog 253 [.agg (cI p),.c (iA handler),.c (ints vars),.agg [iA self,iA nodes,iA (s.clock+1+n),iA n3,iA n4,iA n5,iA n6,iA n7,iA n8],.c (ints (uN l ⟨self,handler,k⟩))] (fun x=>x=.w (.agg (zk o))):=axO p handler vars _ _ o ho hh rfl uW azX agP;have azY:=aja s vars iZ (by have:=hN.sH;omega) (by have:=hN.aZ.sG;omega) (by have:=hN.Az;omega);have Aa:=ayd l ⟨self,handler,k⟩ hl;refine cC Tryz.func199 ⟨0,[],[(255,[401,402])],[(20,[400])],cU,[(31,[52,53,56])],[(2,[(17,52,400,78,7),(17,53,401,208,9),(17,56,402,3,1)])]⟩ [tm 1 9,(11,9,tk 0 3 (tk 4 4 (.move 3 (.move 8 .nil))),[]),(17,20,tk 0 17 (.move 17 (tk 18 1 (.move 19 .nil))),[]),tz 23 7] [.cell 16 67] [8,9,14,16,17,18,19,20,21,22] [8,9,14,16,17,18,21,400,401,402] ?_;have FF:=Wl @h41 @akR @h52 @h51 @azV @nW @aji @iG @vT @ajn @ajj @ayo @ayp @ajk @ayq @ayr @aaK @ajl @azW
 try refine aF ?_
 try clear FF
 by_cases hd:0<drift
 case' pos=>
  rw[aq hd] at AB cP;have hq:=aD.Ig l ⟨self,handler,k,2,0⟩ (show 0<drift+1 by omega);rw[<-cP] at hq;have pK:=aaB l ⟨self,handler,k,2,0⟩ (drift+1) ab hl;rw[<-cP] at pK;have d1:=oO (a:=drift) (b:=1) ab ab;have d2:=oO (a:=s.clock+1) (b:=n) ab ab;have FF:=FT @hd @d1 @d2 @iG @vT @aaK @ajl @TY @aaL @Jc;refine bJ pK ?_
  try clear FF
  obtain⟨g4,Ms⟩:∃g4:Nat,g4=2:=⟨_,rfl⟩
  rw[show [[iA self,iA ↑handler,iA k,AC.v (Value.int IntKind.i64 2),AC.v (Value.int IntKind.i64 0),AC.v (Value.int IntKind.i64 (drift+1)),iA n]]=tick.map eH from by rw[AB];rfl,show AC.own 400 2=AC.own 400 g4 by rw[Ms],show∀x,Slot.row 78 7 2 x=Slot.row 78 7 g4 x from fun x=>by rw[Ms]];generalize Slot.box 1 [iA self,iA ↑handler,iA k,AC.v (Value.int IntKind.i64 2),AC.v (Value.int IntKind.i64 0)]=s18;generalize AV.w (AW.c (iA n))=x19;generalize AV.pb 18 1 0=x18;have CF:0<=n/\n<=3:=ab
 case' neg=>
  rw[af hd] at AB cP;have FF:=@hd
  try refine aF ?_
  try clear FF
  obtain⟨g4,Ms⟩:∃g4:Nat,g4=1:=⟨_,rfl⟩
  rw[show Slot.row 78 7 1 []=Slot.row 78 7 g4 (tick.map eH) from by rw[AB,Ms];rfl,show AC.own 400 1=AC.own 400 g4 by rw[Ms],show s.clock+1=s.clock+1+n by omega]
  obtain⟨x18,h18⟩:∃x18,x18=AV.u:=⟨_,rfl⟩
  obtain⟨x19,h19⟩:∃x19,x19=AV.u:=⟨_,rfl⟩
  obtain⟨s18,akS⟩:∃s18,s18=Slot.dead 0:=⟨_,rfl⟩
  rw[show((18:Nat),AV.u)=(18,x18) by rw[h18],show((19:Nat),AV.u)=(19,x19) by rw[h19],show((18:Nat),Slot.dead 0)=(18,s18) by rw[akS]];have CF:0<=n/\n<=3:=ab;clear h18 h19 akS
 all_goals
  clear Ms;have FF:=Wj @iG @vT @aaK @Jc @ayt @ayu @akN @ajo @aaM @ayv @ayw @ayx @aaN;refine yK azY Aa hrun ?_
  try clear FF
  have kt:tick.length<=1:=by rw[AB];simp
  clear AB cP;rw[show Slot.row 78 7 g4 (tick.map eH)=Slot.row 78 7 g4 ((tick++kz l ⟨self,handler,k⟩ 0 (o.asked.take 0)).map eH) by simp[kz]]
  refine dv (fun m V S=>∃(i g:Nat) (x21:AV) (s21:Slot) (z16:List AC),i<=o.asked.length/\m=o.asked.length-i/\
   V=[(0,.w (.agg (aR s))),(1,.w (.agg (cI p))),(2,.w (.c (iA handler))),(3,.w (.c (iA self))),(4,.w (.c (iA nodes))),(5,.w (.c (iA drift))),(6,.w (.agg [iA n0,iA n1,iA n2,iA n3,iA n4,iA n5,iA n6,iA n7,iA n8])),(7,.w (.c (nL l))),(8,.pb 8 1 0),(9,.pb 9 1 0),(14,.pb 14 1 0),(16,.pb 16 1 0),(17,.pb 17 1 0),(18,x18),(19,x19),(20,.w (.c (iA i))),(21,x21),(22,.u)]/\
   S=[(8,.box 1 (aR s)),(9,.box 1 (cI p)),(14,.box 1 [iA self,iA nodes,iA (s.clock+1+n),iA n3,iA n4,iA n5,iA n6,iA n7,iA n8]),(16,.box 1 z16),(17,.box 1 (rC { s with clock:=s.clock+1+n } (.own 400 g) (.own 401 1) false 0 (.own 402 1) ⟨self,handler,k⟩ (zk o) (ints o.covered))),(18,s18),(21,s21),(400,.row 78 7 g ((tick++kz l ⟨self,handler,k⟩ 0 (o.asked.take i)).map eH)),(401,.row 208 9 1 []),(402,.row 3 1 1 [])]/\z16.length=67) (n:=o.asked.length) ⟨0,g4,.u,.dead 0,_,ab,ab,rfl,rfl,eD⟩ ?_
  rintro m V L S ⟨i,g,x21,s21,z16,hi,rfl,rfl,rfl,hz⟩;by_cases xy:i<o.asked.length
  ·obtain⟨q,hq⟩:∃q,o.asked[i]=q:=⟨_,rfl⟩
   have AP:=hO.asked q (hq▸bP xy);have pK:=aaB l ⟨self,handler,k,1,i⟩ q ab hl;have eN:i<=1000000000:=ab
   have ll:tick++kz l ⟨self,handler,k⟩ 0 (o.asked.take (i+1))=(tick++kz l ⟨self,handler,k⟩ 0 (o.asked.take i))++[ig ⟨self,handler,k,1,i⟩ q (fX l ⟨self,handler,k,1,i⟩ q)]:=by
    rw[List.take_succ_eq_append_getElem xy,akP,hq,dN,Ge (BL xy),List.append_assoc,fu];rfl
   have ez:(tick++kz l ⟨self,handler,k⟩ 0 (o.asked.take i)).length<=1+i:=by
    have:=(aD.YK l ⟨self,handler,k⟩ (o.asked.take i) 0 (fun x hx=>hO.asked x (tu hx)) bq).2;rw[List.length_append,this,dN];omega
   generalize tick++kz l ⟨self,handler,k⟩ 0 (o.asked.take i)=ak at ll ez⊢;have abC:ak.length+1<=100000000:=ab;have FF:=FT @xy @hq @abC (bN eN) @iG @vT @Jc @TY @aaL @aaN;refine bJ pK ?_
   try clear FF
   exact⟨o.asked.length-(i+1),ab,i+1,g+1,_,_,z16,ab,ab,rfl,by rw[ll,de];rfl,hz⟩
  obtain rfl:i=o.asked.length:=ab;rw[fK];generalize tick++kz l ⟨self,handler,k⟩ 0 o.asked=Da at h⊢
  obtain⟨dn,ff⟩:∃dn:Nat,p.dH=dn:=⟨p.dH.toNat,ab⟩
  have hpd:((cI p).drop 41).take 1=[iA dn]:=by rw[axB,ff]
  have ez:dn<=o.vars.length:=ab
  have Fq:∀(ak sn fl aE:AC) (oo:List AC),((rC { s with clock:=s.clock+1+n } ak sn false 0 fl ⟨self,handler,k⟩ oo aE).drop (8+handler)).take 1=[iA k]:=fun ak sn fl aE oo=>by
   rw[ajm _ _ _ _ _ _ _ _ _ h41]
   show [iA (s.counts.getD handler 0)]=[iA k]
   rw[dp]
  have abD:∀(ak sn fl aE:AC) (oo:List AC),(rC { s with clock:=s.clock+1+n } ak sn false 0 fl ⟨self,handler,k⟩ oo aE).take (8+handler)++iA (k+1)::(rC { s with clock:=s.clock+1+n } ak sn false 0 fl ⟨self,handler,k⟩ oo aE).drop (8+handler+1)=rC { s with clock:=s.clock+1+n,counts:=s.counts.set handler (k+1) } ak sn false 0 fl ⟨self,handler,k⟩ oo aE:=fun ak sn fl aE oo=>ajp _ _ _ _ _ _ _ _ _ (k+1) h41 hlt
  have h67:8+handler+1<=67:=ab;have h66:8+handler<=66:=ab;have azZ:8+handler<67:=ab;have ck1:=oO (a:=k) (b:=1) ab ab;rw[ff,fJ] at h;have FF:=adz @xy @iG @vT @ajo @aaN @h41 @akR @h67 @h66 @azZ @Fq @abD @ays @ck1 @hpd @ez @ajq;refine XV (afZ (o.vars.drop dn) 16 ab) ?_
  try clear FF
  rw[ajq ai ai]
  obtain⟨sN,hsN⟩:∃sN:aD.Node,sN={ s with clock:=s.clock+1+n,fx:=(o.vars.drop dn).take 16,counts:=s.counts.set handler (k+1) }:=⟨_,rfl⟩
  rw[<-hsN] at h⊢
  have fE:PF ⟨sN,Da,[],false,0,[],⟨self,handler,k⟩,o,o.covered⟩ 0:=by
   have e1:=hN.sH;have e2:=hN.aZ.sG;have e3:=hN.vE;rw[hsN];exact⟨by show s.aZ.cells.length<=1000;omega,by show s.aZ.pending.length<=1000;omega,by show s.timers.length<=1000;omega,cK _,cK _⟩
  have aGR:o.acts.length<=500:=by have:=hO.Lg;omega
  refine dv (fun m V S=>∃(i g1 g2:Nat) (r1:Rr) (y18 y19 y21:AV) (t18 t21:Slot) (z:List AC),i<=o.acts.length/\m=o.acts.length-i/\uP r1 (o.acts.drop i)=some r/\PF r1 i/\r1.asks=Da/\r1.gB=⟨self,handler,k⟩/\r1.out=o/\r1.covered=o.covered/\
   V=[(0,.w (.agg (aR s))),(1,.w (.agg (cI p))),(2,.w (.c (iA handler))),(3,.w (.c (iA self))),(4,.w (.c (iA nodes))),(5,.w (.c (iA drift))),(6,.w (.agg [iA n0,iA n1,iA n2,iA n3,iA n4,iA n5,iA n6,iA n7,iA n8])),(7,.w (.c (nL l))),(8,.pb 8 1 0),(9,.pb 9 1 0),(14,.pb 14 1 0),(16,.pb 16 1 0),(17,.pb 17 1 0),(18,y18),(19,y19),(20,.w (.c (iA o.asked.length))),(21,y21),(22,.w (.c (iA i)))]/\
   S=[(8,.box 1 (aR s)),(9,.box 1 (cI p)),(14,.box 1 [iA self,iA nodes,iA (s.clock+1+n),iA n3,iA n4,iA n5,iA n6,iA n7,iA n8]),(16,.box 1 z),(17,.box 1 (rC r1.s (asks Da) (.own 401 g1) r1.sb r1.value (.own 402 g2) ⟨self,handler,k⟩ (zk o) (ints o.covered))),(18,t18),(21,t21),(400,.dead g),(401,.row 208 9 g1 (r1.sent.map xt)),(402,.row 3 1 g2 (bH r1.bC))]/\z.length=67) (n:=o.acts.length)
   ⟨0,1,1,⟨sN,Da,[],false,0,[],⟨self,handler,k⟩,o,o.covered⟩,_,_,_,_,_,_,ab,ab,h,fE,rfl,rfl,rfl,rfl,rfl,rfl,by simp[hz]⟩ ?_
  rintro m V L S ⟨i,g1,g2,r1,y18,y19,y21,t18,t21,z,hi,rfl,mH,eL,zi,AY,PG,ha4,rfl,rfl,fj⟩;by_cases cY:i<o.acts.length
  ·obtain⟨a,ha⟩:∃a,o.acts[i]=a:=⟨_,rfl⟩
   rw[List.drop_eq_getElem_cons cY,ha] at mH;obtain⟨r2,eA,aAa⟩:=azU mH;obtain⟨aAb,q1,q2,q3,q4⟩:=azT eA eL;have eN:i<=1000000000:=ab;have hm:=ayR r1 r2 a (asks Da) (ints o.covered) (zk o) g1 g2 eA ai ai ai rfl (by have:=eL.cells;omega) (by have:=eL.Oq;omega) (by have:=eL.tim;omega) (by have:=eL.sent;omega) (by have:=eL.fail;omega);rw[AY] at hm
   have oM:∀(n:aD.Node) (rep:Bool) (val:Int) (g1 g2:Nat),(rC n (asks Da) (.own 401 g1) rep val (.own 402 g2) ⟨self,handler,k⟩ (zk o) (ints o.covered)).all (lG [401,402])=true:=fun n rep val g1 g2=>azS ai ai ai
   have FF:=wF @cY @ha @iG @vT @akN @aaM @oM (bN eN);refine bJ hm ?_
   try clear FF
   exact⟨o.acts.length-(i+1),ab,i+1,_,_,r2,y18,y19,y21,t18,t21,z,ab,ab,aAa,aAb,q1.trans zi,q2.trans AY,q3.trans PG,q4.trans ha4,rfl,rfl,fj⟩
  ·have GC:i=o.acts.length:=ab;rw[GC,Kf] at mH;simp only[uP,aA] at mH;subst mH;have hzd:z.drop 67=[]:=uF ab;have FF:=gI @cY @iG @vT @aaM @fj @hzd
   try refine aF ?_
   try clear FF
   (try dsimp only[lI,mj])
   have IE:∀(V L:List (Nat×AV)) (S:List (Nat×Slot)),aI S 401=some (.row 208 9 g1 (r1.sent.map xt))->aI S 402=some (.row 3 1 g2 (bH r1.bC))->St.jQ ⟨V,L,S⟩ (rC r1.s (asks Da) (.own 401 g1) r1.sb r1.value (.own 402 g2) ⟨self,handler,k⟩ (zk o) (ints o.covered))=some (rC r1.s (asks Da) (jU r1.sent) r1.sb r1.value (ints r1.bC) ⟨self,handler,k⟩ (zk o) (ints o.covered)):=fun V L S h1 h2=>
    ajr ai ai ai (by simp[h1]) (by simp[h2])
   exact kC (xs:=[.agg (rC r1.s (asks Da) (jU r1.sent) r1.sb r1.value (ints r1.bC) ⟨self,handler,k⟩ (zk o) (ints o.covered))]) (by simp[iG,vT,IE]) (by rw[zi,AY,PG,ha4];rfl)
end Ab
end Go.Proofs.YtkanpepkdcmpmaaGreatDoor
