import Derived.Test.YtlnghiefahcnpaaGreatQ105
import Derived.Test.YtlnghiefahcnpaaGreatQ17
import Derived.Test.YtlnghiefahcnpaaGreatQ13
set_option maxHeartbeats 40000000
set_option maxRecDepth 100000
set_option linter.all false
namespace Go.Proofs.YtlnghiefahcnpaaGreat
namespace Ab
open Go Go.RowKit dL
attribute [local irreducible] aC bo aU
open aq (dF de Rr aL mn ny gW eU su ky eh pO tO sq)
open aq (gN mI OP JW qf oT)
theorem Pz:∀(l:List (Int×Int)) (c r:List Int),aq.gV c l=some r->r.length=c.length
 |[],c,r,h=>by
  simp only[aq.gV,ar] at h;rw[h]
 |x::l,c,r,h=>by
  obtain⟨_,_,h3⟩:=Fl (i:=x.1) (v:=x.2) h;have:=Pz l _ _ h3;simpa using this
theorem aex (n:aq.Node)(ak sn:AC)(rep:Bool)(val:Int)(fl:AC)(c:aL)(au o0 o1 o2 o3 o4 o5:AC):(rC n ak sn rep val fl c [o0,o1,o2,o3,o4,o5] au).drop 67=[]:=oZ (by rw[fh];exact di _)
theorem Gb {D:List Nat}:∀{cs:List AC},cs.all inl=true->cs.all (iP D)=true
 |[],_=>rfl
 |c::cs,h=>by
  simp only[vT,bN] at h;rw[vT,Gb h.2,Bool.and_true]
  cases c with
  |own s g=>cases h.1
  |ct s g=>cases h.1
  |part s g i=>cases h.1
  |cls f bK=>cases h.1
  |dX f bK=>rfl
  |v x=>rfl
  |sl es=>rfl
theorem aqM {n:aq.Node}{ak:AC}{g1 g2:Nat}{rep:Bool}{val:Int}{c:aL}{o:List AC}{au:AC}(Av:inl ak=true)(ho:o.all inl=true)(qc:inl au=true):(rC n ak (.own 401 g1) rep val (.own 402 g2) c o au).all (iP [401,402])=true:=by
 rw[dt,List.all_append,Gb (JK n),List.all_append,List.all_append,Gb ho,Gb (cs:=[au]) (by simp[qc])];have h1:=Gb (D:=[401,402]) (cs:=[ak]) (by simp[Av]);simp only[vT,List.all_nil,Bool.and_true] at h1;simp only[vT,List.all_nil,h1];rfl
structure Gc (r:Rr)(m:Nat):Prop where
 cells:r.s.aS.cells.length<=1000
 FK:r.s.aS.pending.length<=1000
 tim:r.s.timers.length<=1000
 sent:r.sent.length<=m
 fail:r.br.length<=m
theorem aey (l:List Int)(k:Int)(set:Bool):(aq.tP l k set).length<=8:=by
 unfold aq.tP;exact Nat.le_trans (List.length_filter_le _ _) ae
theorem aqN {r r':Rr}{a:dF}{m:Nat}(h:mn r a=some r')(hb:Gc r m):Gc r' (m+1)/\r'.asks=r.asks/\r'.dA=r.dA/\r'.out=r.out/\r'.covered=r.covered:=by
 obtain⟨b1,b2,b3,b4,b5⟩:=hb
 have d:∀(d:aq.fg),d.cells.length<=1000->d.pending.length<=1000->Gc { r with s:={ r.s with aS:=d } } (m+1):=fun d g1 g2=>⟨g1,g2,b3,mM b4,mM b5⟩
 unfold mn at h;split at h
 ·simp only[bz] at h;obtain⟨x,hx,rfl⟩:=h;refine⟨?_,rfl,rfl,rfl,rfl⟩;unfold aq.sr at hx;split at hx
  ·cases hx;exact d _ b1 b2
  ·split at hx
   ·simp only[bz] at hx;obtain⟨c,hc,rfl⟩:=hx;exact d _ (by have:=Pz _ _ _ hc;show c.length<=1000;omega) (by simp;exact b2)
   ·rename_i h4;cases hx;refine d _ b1 ?_
    show(r.s.aS.pending++[(a.a,a.b)]).length<=1000
    omega
 ·split at h
  ·simp only[bz] at h;obtain⟨x,hx,rfl⟩:=h;refine⟨?_,rfl,rfl,rfl,rfl⟩;unfold aq.tN aq.qR at hx;simp only[bz] at hx;obtain⟨c,hc,rfl⟩:=hx;exact d _ (by have:=Pz _ _ _ hc;show c.length<=1000;omega) ae
  ·repeat' split at h
   all_goals
    simp only[ar] at h;subst h;refine⟨?_,rfl,rfl,rfl,rfl⟩
   ·exact⟨b1,b2,Nat.le_trans (aey _ _ _) aa,mM b4,mM b5⟩
   ·exact⟨b1,b2,Nat.le_trans (aey _ _ _) aa,mM b4,mM b5⟩
   ·exact⟨b1,b2,b3,by simp;omega,mM b5⟩
   ·exact⟨b1,b2,b3,mM b4,mM b5⟩
   ·exact⟨b1,b2,b3,mM b4,mM b5⟩
   ·exact⟨b1,b2,b3,mM b4,by simp;omega⟩
   ·exact⟨b1,b2,b3,mM b4,mM b5⟩
theorem aez (l:List bf)(c:aL):∀(a b:List Int) (j:Nat),gW l c j (a++b)=gW l c j a++gW l c (j+a.length) b
 |[],b,j=>by simp[gW]
 |x::a,b,j=>by
  simp only[List.cons_append,gW,aez l c a b (j+1),List.length_cons];rw[show j+1+a.length=j+(a.length+1) by omega]
theorem aqO {r r2:Rr}{a:dF}{l:List dF}(h:ny r (a::l)=some r2):∃r1,mn r a=some r1/\ny r1 l=some r2:=by
 unfold ny at h;split at h
 ·cases h
 ·rename_i r1 h1;exact⟨r1,h1,h⟩
theorem aeA {ps:List Prog}{dm kk:Nat}{s:aq.Node}(hN:gN ps dm kk s){p:Prog}(hp:ps[s.version.toNat]? =some p)(hs:mI p=true)(ej:s.up=true){handler:Nat}(hh:handler<40){self nodes drift:Int}(xe:aq.bp self=true)(ux:aq.bp nodes=true)(lA:0<=drift/\drift<=3){n0 n1 n2 n3 n4 n5 n6 n7 n8:Int}(bg:∀x∈[n0,n1,n2,n3,n4,n5,n6,n7,n8],aq.bp x=true){l:List bf}(eQ:kk<=5000)(hl:l.length<=1000000){r:Rr}(h:ky s p handler self nodes drift [n0,n1,n2,n3,n4,n5,n6,n7,n8] l=some r):
  bt Tryz.prog 106 [.agg (aK s),.agg (bW p),.c (iA handler),.c (iA self),.c (iA nodes),.c (iA drift),.agg [iA n0,iA n1,iA n2,iA n3,iA n4,iA n5,iA n6,iA n7,iA n8],.c (jU l)] (fun x=>x=.w (.agg (rC r.s (asks r.asks) (.sl (r.sent.map rq)) r.nu r.value (ints r.br) r.dA (sO r.out) (ints r.covered)))):=by
 have hlt:handler<s.counts.length:=by rw[hN.nc];omega
 have lR:=hN.counts _ (cT hlt)
 have hce:s.counts[handler]? =some s.counts[handler]:=by simp[hlt]
 have ez:s.counts.getD handler 0=s.counts[handler]:=by rw[eu,hce];rfl
 have apZ:=hN.clock;have nF:=Ot s (show handler<41 by omega);rw[ez] at nF;unfold ky at h;rw[hce] at h;generalize s.counts[handler]=k at lR hce ez nF h;dsimp only at h;obtain⟨vars,jt,rV,rW⟩:=JW hN;rw[jt] at h;dsimp only at h;have h41:handler<41:=aa;have h52:8+handler+1<=52:=aa;have h51:8+handler<=51:=aa;have aqP:8+handler<52:=aa;have aeB:(handler:Int)<41:=aa;have aqQ:=lO (a:=s.clock) (b:=1) aa aa
 have pF:vars.length<=1000000:=by have:=hN.nT;have:=hN.uv;omega
 obtain⟨tick,n,uy,ct⟩:∃(tick:List Ask) (n:Int),tick=(if 0<drift then [eU ⟨self,handler,k,2,0⟩ (drift+1) n] else [])/\n=(if 0<drift then eh l ⟨self,handler,k,2,0⟩ (drift+1) else 0):=⟨_,_,rfl,rfl⟩
 have PA:0<=n/\n<=3:=by
  rw[ct];split
  ·have:=aq.Ax l ⟨self,handler,k,2,0⟩ (show 0<drift+1 by omega);omega
  ·omega
 simp only[aq.aL.qn] at h;rw[<-ct,<-uy] at h;split at h
 ·cases h
 rename_i o ho;split at h
 case isFalse=>cases h
 rename_i hdu;have oB:=(hN.run ej).2 p hp
 obtain⟨o',mW,hO,rP,hst⟩:=OP hs hh (vars:=vars) (names:=su [n0,n1,n2,n3,n4,n5,n6,n7,n8] self nodes (s.clock+1+n)) (answers:=pO l ⟨self,handler,k⟩) aa rW rfl (fun x hx=>by
  have hx:x∈[self,nodes,s.clock+1+n,n3,n4,n5,n6,n7,n8]:=hx;simp only[eM,qz,qD] at hx
  rcases hx with rfl|rfl|rfl|rfl|rfl|rfl|rfl|rfl|rfl
  ·exact xe
  ·exact ux
  ·rw[aq.qd];omega
  all_goals exact bg _ ae)
 rw[ho] at mW;cases mW
 have aqR:(pO l ⟨self,handler,k⟩).length<=1000000:=by unfold pO;simp;omega
 have adq:p.code.length<=1000000:=by
  have gD:=hs;unfold mI at gD;simp only[bN,dv] at gD;have:=gD.2;omega
 have hrun:bt Tryz.prog 135 [.agg (bW p),.c (iA handler),.c (ints vars),.agg [iA self,iA nodes,iA (s.clock+1+n),iA n3,iA n4,iA n5,iA n6,iA n7,iA n8],.c (ints (pO l ⟨self,handler,k⟩))] (fun x=>x=.w (.agg (sO o))):=aoo p handler vars _ _ o ho hh rfl pF aqR adq;have PB:=JL s vars jt (by have:=hN.nT;omega) (by have:=hN.aS.nS;omega) (by have:=hN.uv;omega);have EJ:=aoA l ⟨self,handler,k⟩ hl;refine bZ aG Tryz.func106 rfl aet [.cell 16 67] ah _ rfl [8,9,14,16,17,18,19,20,21,22] [8,9,14,16,17,18,21,400,401,402] ?_;refine bG aet ?_;dsimp only[V0,uV,S0];have FF:=KZ @h41 @aeB @h52 @h51 @aqP @nF @acI @fh @pY @acN @acJ @aph @api @acK @apj @apk @OG @acL @aqQ
 repeat first|refine bb ?_|refine zrq ?_
 try clear FF
 by_cases hd:0<drift
 case' pos=>
  rw[if_pos hd] at uy ct;have hq:=aq.Ax l ⟨self,handler,k,2,0⟩ (show 0<drift+1 by omega);rw[<-ct] at hq;have js:=Oc l ⟨self,handler,k,2,0⟩ (drift+1) aa hl;rw[<-ct] at js;have d1:=lO (a:=drift) (b:=1) aa aa;have d2:=lO (a:=s.clock+1) (b:=n) aa aa;have FF:=zj @hd @d1 @d2 @fh @pY @OG @acL @JQ @OH @Au
  repeat first|refine aN js ?_|refine aO js ?_|refine aP js ?_|refine bb ?_|refine zrq ?_
  try clear FF
  obtain⟨g4,Df⟩:∃g4:Nat,g4=2:=⟨_,rfl⟩
  rw[show [[iA self,iA ↑handler,iA k,AC.v (Value.int IntKind.i64 2),AC.v (Value.int IntKind.i64 0),AC.v (Value.int IntKind.i64 (drift+1)),iA n]]=tick.map Aq from by rw[uy];rfl,show AC.own 400 2=AC.own 400 g4 by rw[Df],show∀x,Slot.row 100 7 2 x=Slot.row 100 7 g4 x from fun x=>by rw[Df]];generalize Slot.box 1 [iA self,iA ↑handler,iA k,AC.v (Value.int IntKind.i64 2),AC.v (Value.int IntKind.i64 0)]=s18;generalize AV.w (AW.c (iA n))=x19;generalize AV.pb 18 1 0=x18;have PA:0<=n/\n<=3:=aa
 case' neg=>
  rw[if_neg hd] at uy ct;have FF:=@hd
  repeat first|refine bb ?_|refine zrq ?_
  try clear FF
  obtain⟨g4,Df⟩:∃g4:Nat,g4=1:=⟨_,rfl⟩
  rw[show Slot.row 100 7 1 []=Slot.row 100 7 g4 (tick.map Aq) from by rw[uy,Df];rfl,show AC.own 400 1=AC.own 400 g4 by rw[Df],show s.clock+1=s.clock+1+n by omega]
  obtain⟨x18,h18⟩:∃x18,x18=AV.u:=⟨_,rfl⟩
  obtain⟨x19,h19⟩:∃x19,x19=AV.u:=⟨_,rfl⟩
  obtain⟨s18,aeC⟩:∃s18,s18=Slot.dead 0:=⟨_,rfl⟩
  rw[show((18:Nat),AV.u)=(18,x18) by rw[h18],show((19:Nat),AV.u)=(19,x19) by rw[h19],show((18:Nat),Slot.dead 0)=(18,s18) by rw[aeC]];have PA:0<=n/\n<=3:=aa;clear h18 h19 aeC
 all_goals
  clear Df;have FF:=vL @fh @pY @OG @Au @apm @apn @aex @acO @OI @apo @apq @apr @OJ
  repeat first|refine aN PB ?_|refine aN EJ ?_|refine aN hrun ?_|refine aO PB ?_|refine aO EJ ?_|refine aO hrun ?_|refine aP PB ?_|refine aP EJ ?_|refine aP hrun ?_|refine bb ?_|refine zrq ?_
  try clear FF
  have kt:tick.length<=1:=by rw[uy];simp
  clear uy ct;rw[show Slot.row 100 7 g4 (tick.map Aq)=Slot.row 100 7 g4 ((tick++gW l ⟨self,handler,k⟩ 0 (o.asked.take 0)).map Aq) by simp[gW]]
  refine cF (fun m V S=>∃(i g:Nat) (x21:AV) (s21:Slot) (z16:List AC),i<=o.asked.length/\m=o.asked.length-i/\
   V=[(0,.w (.agg (aK s))),(1,.w (.agg (bW p))),(2,.w (.c (iA handler))),(3,.w (.c (iA self))),(4,.w (.c (iA nodes))),(5,.w (.c (iA drift))),(6,.w (.agg [iA n0,iA n1,iA n2,iA n3,iA n4,iA n5,iA n6,iA n7,iA n8])),(7,.w (.c (jU l))),(8,.pb 8 1 0),(9,.pb 9 1 0),(14,.pb 14 1 0),(16,.pb 16 1 0),(17,.pb 17 1 0),(18,x18),(19,x19),(20,.w (.c (iA i))),(21,x21),(22,.u)]/\
   S=[(8,.box 1 (aK s)),(9,.box 1 (bW p)),(14,.box 1 [iA self,iA nodes,iA (s.clock+1+n),iA n3,iA n4,iA n5,iA n6,iA n7,iA n8]),(16,.box 1 z16),(17,.box 1 (rC { s with clock:=s.clock+1+n } (.own 400 g) (.own 401 1) false 0 (.own 402 1) ⟨self,handler,k⟩ (sO o) (ints o.covered))),(18,s18),(21,s21),(400,.row 100 7 g ((tick++gW l ⟨self,handler,k⟩ 0 (o.asked.take i)).map Aq)),(401,.row 113 9 1 []),(402,.row 3 1 1 [])]/\z16.length=67) (n:=o.asked.length) ⟨0,g4,.u,.dead 0,_,aa,aa,rfl,rfl,kZ⟩ ?_
  rintro m V L S ⟨i,g,x21,s21,z16,hi,rfl,rfl,rfl,hz⟩;by_cases qJ:i<o.asked.length
  ·obtain⟨q,hq⟩:∃q,o.asked[i]=q:=⟨_,rfl⟩
   have wy:=hO.asked q (hq▸cT qJ);have js:=Oc l ⟨self,handler,k,1,i⟩ q aa hl;have dI:i<=1000000000:=aa
   have iC:tick++gW l ⟨self,handler,k⟩ 0 (o.asked.take (i+1))=(tick++gW l ⟨self,handler,k⟩ 0 (o.asked.take i))++[eU ⟨self,handler,k,1,i⟩ q (eh l ⟨self,handler,k,1,i⟩ q)]:=by
    rw[ki qJ,aez,hq,eo,zw (Nat.le_of_lt qJ),List.append_assoc,fK];rfl
   have mf:(tick++gW l ⟨self,handler,k⟩ 0 (o.asked.take i)).length<=1+i:=by
    have:=(aq.OV l ⟨self,handler,k⟩ (o.asked.take i) 0 (fun x hx=>hO.asked x (vP hx)) (by simp;omega)).2;rw[List.length_append,this,eo];omega
   generalize tick++gW l ⟨self,handler,k⟩ 0 (o.asked.take i)=ak at iC mf⊢;have PC:ak.length+1<=100000000:=aa;have FF:=zj @qJ @hq @PC (bL dI) @fh @pY @Au @JQ @OH @OJ
   repeat first|refine aN js ?_|refine aO js ?_|refine aP js ?_|refine bb ?_|refine zrq ?_
   try clear FF
   exact⟨o.asked.length-(i+1),aa,i+1,g+1,_,_,z16,aa,aa,rfl,by rw[iC,dw];rfl,hz⟩
  obtain rfl:i=o.asked.length:=aa;rw[ig];generalize tick++gW l ⟨self,handler,k⟩ 0 o.asked=xl at h⊢
  obtain⟨dn,iw⟩:∃dn:Nat,p.cC=dn:=⟨p.cC.toNat,aa⟩
  have hpd:((bW p).drop 41).take 1=[iA dn]:=by rw[anV,iw]
  have mf:dn<=o.vars.length:=aa
  have PD:∀(ak sn fl au:AC) (oo:List AC),((rC { s with clock:=s.clock+1+n } ak sn false 0 fl ⟨self,handler,k⟩ oo au).drop (8+handler)).take 1=[iA k]:=fun ak sn fl au oo=>by
   rw[acM _ _ _ _ _ _ _ _ _ h41]
   show [iA (s.counts.getD handler 0)]=[iA k]
   rw[ez]
  have PE:∀(ak sn fl au:AC) (oo:List AC),(rC { s with clock:=s.clock+1+n } ak sn false 0 fl ⟨self,handler,k⟩ oo au).take (8+handler)++iA (k+1)::(rC { s with clock:=s.clock+1+n } ak sn false 0 fl ⟨self,handler,k⟩ oo au).drop (8+handler+1)=rC { s with clock:=s.clock+1+n,counts:=s.counts.set handler (k+1) } ak sn false 0 fl ⟨self,handler,k⟩ oo au:=fun ak sn fl au oo=>acP _ _ _ _ _ _ _ _ _ (k+1) h41 hlt
  have h67:8+handler+1<=67:=aa;have h66:8+handler<=66:=aa;have aqS:8+handler<67:=aa;have PF:=lO (a:=k) (b:=1) aa aa;rw[iw,iT] at h;have FF:=TQ @qJ @fh @pY @acO @OJ @h41 @aeB @h67 @h66 @aqS @PD @PE @apl @PF @hpd @mf @acQ
  repeat first|refine NL (NY (o.vars.drop dn) 16 aa) ?_|refine NM (NY (o.vars.drop dn) 16 aa) ?_|refine NN (NY (o.vars.drop dn) 16 aa) ?_|refine ayf ?_|refine aye ?_
  try clear FF
  rw[acQ ae ae]
  obtain⟨sN,Ce⟩:∃sN:aq.Node,sN={ s with clock:=s.clock+1+n,dO:=(o.vars.drop dn).take 16,counts:=s.counts.set handler (k+1) }:=⟨_,rfl⟩
  rw[<-Ce] at h⊢
  have Ip:Gc ⟨sN,xl,[],false,0,[],⟨self,handler,k⟩,o,o.covered⟩ 0:=by
   have e1:=hN.nT;have e2:=hN.aS.nS;have e3:=hN.qg;rw[Ce];exact⟨by show s.aS.cells.length<=1000;omega,by show s.aS.pending.length<=1000;omega,by show s.timers.length<=1000;omega,di _,di _⟩
  have axy:o.acts.length<=500:=by have:=hO.CX;omega
  refine cF (fun m V S=>∃(i g1 g2:Nat) (r1:Rr) (y18 y19 y21:AV) (t18 t21:Slot) (z:List AC),i<=o.acts.length/\m=o.acts.length-i/\ny r1 (o.acts.drop i)=some r/\Gc r1 i/\r1.asks=xl/\r1.dA=⟨self,handler,k⟩/\r1.out=o/\r1.covered=o.covered/\
   V=[(0,.w (.agg (aK s))),(1,.w (.agg (bW p))),(2,.w (.c (iA handler))),(3,.w (.c (iA self))),(4,.w (.c (iA nodes))),(5,.w (.c (iA drift))),(6,.w (.agg [iA n0,iA n1,iA n2,iA n3,iA n4,iA n5,iA n6,iA n7,iA n8])),(7,.w (.c (jU l))),(8,.pb 8 1 0),(9,.pb 9 1 0),(14,.pb 14 1 0),(16,.pb 16 1 0),(17,.pb 17 1 0),(18,y18),(19,y19),(20,.w (.c (iA o.asked.length))),(21,y21),(22,.w (.c (iA i)))]/\
   S=[(8,.box 1 (aK s)),(9,.box 1 (bW p)),(14,.box 1 [iA self,iA nodes,iA (s.clock+1+n),iA n3,iA n4,iA n5,iA n6,iA n7,iA n8]),(16,.box 1 z),(17,.box 1 (rC r1.s (asks xl) (.own 401 g1) r1.nu r1.value (.own 402 g2) ⟨self,handler,k⟩ (sO o) (ints o.covered))),(18,t18),(21,t21),(400,.dead g),(401,.row 113 9 g1 (r1.sent.map rq)),(402,.row 3 1 g2 (bB r1.br))]/\z.length=67) (n:=o.acts.length)
   ⟨0,1,1,⟨sN,xl,[],false,0,[],⟨self,handler,k⟩,o,o.covered⟩,_,_,_,_,_,_,aa,aa,h,Ip,rfl,rfl,rfl,rfl,rfl,rfl,by simp[hz]⟩ ?_
  rintro m V L S ⟨i,g1,g2,r1,y18,y19,y21,t18,t21,z,hi,rfl,vY,ed,pJ,Dg,Gg,CG,rfl,rfl,kF⟩;by_cases cH:i<o.acts.length
  ·obtain⟨a,ha⟩:∃a,o.acts[i]=a:=⟨_,rfl⟩
   rw[List.drop_eq_getElem_cons cH,ha] at vY;obtain⟨r2,oB,aqT⟩:=aqO vY;obtain⟨aqU,q1,q2,q3,q4⟩:=aqN oB ed;have dI:i<=1000000000:=aa;have hm:=aqL r1 r2 a (asks xl) (ints o.covered) (sO o) g1 g2 oB ae ae ae rfl (by have:=ed.cells;omega) (by have:=ed.FK;omega) (by have:=ed.tim;omega) (by have:=ed.sent;omega) (by have:=ed.fail;omega);rw[Dg] at hm
   have kQ:∀(n:aq.Node) (rep:Bool) (val:Int) (g1 g2:Nat),(rC n (asks xl) (.own 401 g1) rep val (.own 402 g2) ⟨self,handler,k⟩ (sO o) (ints o.covered)).all (iP [401,402])=true:=fun n rep val g1 g2=>aqM ae ae ae
   have FF:=td @cH @ha @fh @pY @aex @OI @kQ (bL dI)
   repeat first|refine jS hm ?_|refine jT hm ?_|refine nM rfl hm ?_|refine bb ?_|refine zrq ?_
   try clear FF
   exact⟨o.acts.length-(i+1),aa,i+1,_,_,r2,y18,y19,y21,t18,t21,z,aa,aa,aqT,aqU,q1.trans pJ,q2.trans Dg,q3.trans Gg,q4.trans CG,rfl,rfl,kF⟩
  ·have zT:i=o.acts.length:=aa;rw[zT,List.drop_length] at vY;simp only[ny,ar] at vY;subst vY;have PJ:z.drop 67=[]:=oZ aa;have FF:=eL @cH @fh @pY @OI @kF @PJ
   repeat first|refine bb ?_|refine zrq ?_
   try clear FF
   (try dsimp only[aM,aJ])
   have Km:∀(V L:List (Nat×AV)) (S:List (Nat×Slot)),aB S 401=some (.row 113 9 g1 (r1.sent.map rq))->aB S 402=some (.row 3 1 g2 (bB r1.br))->St.gK ⟨V,L,S⟩ (rC r1.s (asks xl) (.own 401 g1) r1.nu r1.value (.own 402 g2) ⟨self,handler,k⟩ (sO o) (ints o.covered))=some (rC r1.s (asks xl) (gM r1.sent) r1.nu r1.value (ints r1.br) ⟨self,handler,k⟩ (sO o) (ints o.covered)):=fun V L S h1 h2=>
    acR ae ae ae (by simp[h1]) (by simp[h2])
   exact bd (xs:=[.agg (rC r1.s (asks xl) (gM r1.sent) r1.nu r1.value (ints r1.br) ⟨self,handler,k⟩ (sO o) (ints o.covered))]) (by simp[fh,pY,Km]) (by rw[pJ,Dg,Gg,CG];rfl)
end Ab
end Go.Proofs.YtlnghiefahcnpaaGreat
