import Derived.Test.YtlnghiefahcnpaaGreatQ27
set_option maxHeartbeats 40000000
set_option maxRecDepth 100000
set_option linter.all false
namespace Go.Proofs.YtlnghiefahcnpaaGreat
section
open Go.RowKit
theorem akY (l m:List Ask)(v u:Value)(w:World)(hl:fk w v l)(hm:fk w u m):
  Calls Tryz.prog 43 #[v,u] w fun e w'=>e=.returned (.bool (decide (l=m)))/\∃n,w'=w.drewN n:=by
 obtain⟨ka,ca,rfl,ft⟩:=hl.open;obtain⟨kb,cb,rfl,gr⟩:=hm.open;by_cases hlen:l.length=m.length
 ·have ks:=ab hlen;simp only[<-hlen] at hm⊢;clear hlen gr;have e0:((l.length:Int) !=(l.length:Int))=false:=ae;go_enter Tryz.func43,Tryz.ntmps43;go_wp2;go_loopw [13] (fun i wr=>∃k n:Nat,k<=l.length/\i=.int .i64 k/\wr=w.drewN n/\(∀j<k,l[j]? =m[j]?)) (fun i _=>l.length-(intOf i).toNat)
  case atStart=>exact⟨0,0,aa,rfl,rfl,fun j hj=>absurd hj aa⟩
  case round=>
   obtain⟨k,n,hk,rfl,rfl,hE⟩:=hrel;have HE:=ab hE;clear hE;by_cases hlt:k<l.length
   ·have cH:k<m.length:=by have:=ks.out;omega
    obtain⟨b,o,rfl,x0,x1,x2,x3,x4,x5,x6⟩:=hl.at (i:=k) (x:=l[k]) (by simp[hlt]);obtain⟨b',o',rfl,y0,y1,y2,y3,y4,y5,y6⟩:=hm.at (i:=k) (x:=m[k]) (by simp[cH]);by_cases hx:l[k].ints=m[k].ints
    ·have Hx:=ab hx;have hq:=xG hx;clear hx;unfold Ask.ints at hq;go_wp2;go_quiet (fail);go_wp2;go_roundw
     case rel=>
      refine⟨k+1,n+nq,aa,by go_num,rfl,?_⟩;intro j hj;by_cases dx:j=k
      ·subst dx;simp[hlt,cH,Ask.rJ.1 Hx.out]
      ·exact HE.out j aa
     case measure=>simp[intOf];omega
    ·have Hx:=ab hx;have hq:=zz hx;clear hx;unfold Ask.ints at hq;go_wp2;go_quiet (fail);go_wp2;go_ret;refine⟨cB ?_,n+nq,ae⟩;symm;rw[lV];intro h;exact Hx.out (by subst h;rfl)
   ·have HA:=ab (zy ks.out (fun j hj=>HE.out j aa));go_wp2;go_ret;refine⟨cB ?_,n,rfl⟩;symm;rw[Bl,HA.out]
 ·have e0:((l.length:Int) !=(m.length:Int))=true:=by rw[bne_iff_ne];omega
  have ks:=ab hlen;clear hlen;go_enter Tryz.func43,Tryz.ntmps43;go_wp2;go_ret;refine⟨cB ?_,0,rfl⟩;symm;rw[lV];intro h;exact ks.out (by rw[h])
theorem akZ (l m:List bm)(v u:Value)(w:World)(hl:fm w v l)(hm:fm w u m):
  Calls Tryz.prog 44 #[v,u] w fun e w'=>e=.returned (.bool (decide (l=m)))/\∃n,w'=w.drewN n:=by
 obtain⟨ka,ca,rfl,ft⟩:=hl.open;obtain⟨kb,cb,rfl,gr⟩:=hm.open;by_cases hlen:l.length=m.length
 ·have ks:=ab hlen;simp only[<-hlen] at hm⊢;clear hlen gr;have e0:((l.length:Int) !=(l.length:Int))=false:=ae;go_enter Tryz.func44,Tryz.ntmps44;go_wp2;go_loopw [13] (fun i wr=>∃k n:Nat,k<=l.length/\i=.int .i64 k/\wr=w.drewN n/\(∀j<k,l[j]? =m[j]?)) (fun i _=>l.length-(intOf i).toNat)
  case atStart=>exact⟨0,0,aa,rfl,rfl,fun j hj=>absurd hj aa⟩
  case round=>
   obtain⟨k,n,hk,rfl,rfl,hE⟩:=hrel;have HE:=ab hE;clear hE;by_cases hlt:k<l.length
   ·have cH:k<m.length:=by have:=ks.out;omega
    obtain⟨b,o,rfl,x0,x1,x2,x3,x4⟩:=hl.at (i:=k) (x:=l[k]) (by simp[hlt]);obtain⟨b',o',rfl,y0,y1,y2,y3,y4⟩:=hm.at (i:=k) (x:=m[k]) (by simp[cH]);by_cases hx:l[k].ints=m[k].ints
    ·have Hx:=ab hx;have hq:=xG hx;clear hx;unfold bm.ints at hq;go_wp2;go_quiet (fail);go_wp2;go_roundw
     case rel=>
      refine⟨k+1,n+nq,aa,by go_num,rfl,?_⟩;intro j hj;by_cases dx:j=k
      ·subst dx;simp[hlt,cH,bm.rJ.1 Hx.out]
      ·exact HE.out j aa
     case measure=>simp[intOf];omega
    ·have Hx:=ab hx;have hq:=zz hx;clear hx;unfold bm.ints at hq;go_wp2;go_quiet (fail);go_wp2;go_ret;refine⟨cB ?_,n+nq,ae⟩;symm;rw[lV];intro h;exact Hx.out (by subst h;rfl)
   ·have HA:=ab (zy ks.out (fun j hj=>HE.out j aa));go_wp2;go_ret;refine⟨cB ?_,n,rfl⟩;symm;rw[Bl,HA.out]
 ·have e0:((l.length:Int) !=(m.length:Int))=true:=by rw[bne_iff_ne];omega
  have ks:=ab hlen;clear hlen;go_enter Tryz.func44,Tryz.ntmps44;go_wp2;go_ret;refine⟨cB ?_,0,rfl⟩;symm;rw[lV];intro h;exact ks.out (by rw[h])
theorem af.eq_iff (s t:af):s=t↔s.ev=t.ev/\s.ax=t.ax/\s.asks=t.asks/\s.sent=t.sent:=by
 constructor
 ·rintro rfl;exact⟨rfl,rfl,rfl,rfl⟩
 ·intro⟨a,b,c,d⟩;cases s;cases t;simp at a b c d;simp[a,b,c,d]
theorem ala (s t:af)(v u:Value)(w:World)(hs:s.In w v)(ht:t.In w u):
  Calls Tryz.prog 22 #[v,u] w fun e w'=>e=.returned (.bool (decide (s=t)))/\Below w.heap.size w w':=by
 obtain⟨va,vs,rfl,eZ,fB⟩:=hs;obtain⟨ua,us,rfl,fL,gm⟩:=ht;obtain⟨ka,ca,rfl,xH⟩:=eZ.open;obtain⟨kb,cb,rfl,_⟩:=fL.open;obtain⟨qa,da,rfl,xI⟩:=fB.open;obtain⟨qb,db,rfl,_⟩:=gm.open
 have c1:∀W x,decide (s.asks=t.asks)=x->Below w.heap.size w W->Calls Tryz.prog 43 #[.slice ka s.asks.length ca,.slice kb t.asks.length cb] W fun e w'=>e=.returned (.bool x)/\∃n,w'=W.drewN n:=fun W x hx hB=>hx▸akY _ _ _ _ W (eZ.kept hB av) (fL.kept hB av)
 have c2:∀W x,decide (s.sent=t.sent)=x->Below w.heap.size w W->Calls Tryz.prog 44 #[.slice qa s.sent.length da,.slice qb t.sent.length db] W fun e w'=>e=.returned (.bool x)/\∃n,w'=W.drewN n:=fun W x hx hB=>hx▸akZ _ _ _ _ W (fB.kept hB av) (gm.kept hB av)
 obtain⟨x,hx⟩:∃x,x=decide (s=t):=⟨_,rfl⟩
 rw[<-hx]
 have hd:∀y:Bool,(y=true↔s.ev=t.ev/\s.ax=t.ax/\s.asks=t.asks/\s.sent=t.sent)->y=x:=fun y hy=>by
  rw[hx,zu,hy,Bl];exact(af.eq_iff s t).symm
 clear hx;obtain⟨se,sa,so,ss⟩:=s;obtain⟨te,ta,eO,ts⟩:=t;dsimp only at c1 c2 eZ fB fL gm xH xI hd;simp only[af.val,af.row]
 have jo:∀X Y:Obj,Below w.heap.size w ((w.alloc X).alloc Y):=fun X Y=>((Below.refl _ _).alloc av _).alloc ae _
 have HB:=ab jo;have Hd:=ab hd;clear jo hd eZ fB fL gm xH xI;by_cases h1:se.ints=te.ints
 ·have e1:=xG h1;have H1:=ab (Ev.rJ.1 h1);clear h1;obtain⟨k0,k1,k2,⟨k3,k4,k5,k6,k7⟩⟩:=se;obtain⟨j0,j1,j2,⟨j3,j4,j5,j6,j7⟩⟩:=te;simp only[Ev.ints] at e1;by_cases h2:so=eO
  ·subst h2;have e2:(so==so)=true:=ae;by_cases h3:sa=ta
   ·have C1:=ab (fun W=>c1 W true (by simpa using h3));have H3:=ab h3;by_cases h4:ss=ts
    ·have C2:=ab (fun W=>c2 W true (by simpa using h4));have H4:=ab h4;clear c1 c2 h3 h4;go_enter Tryz.func22,Tryz.ntmps22;go_wp2_with fail;refine(C1.out _ (HB.out _ _)).mono ?_;rintro e w1 ⟨rfl,n1,rfl⟩;go_wp2_with fail;refine(C2.out _ (below_drewN (HB.out _ _) _)).mono ?_;rintro e w1 ⟨rfl,n2,rfl⟩;go_wp2_with fail;go_ret;exact⟨cB (Hd.out _ (by simp only[true_iff];exact⟨H1.out,by first|rfl|trivial,H3.out,H4.out⟩)),below_drewN (HB.out _ _) _⟩
    ·have C2:=ab (fun W=>c2 W false (by simpa using h4));have H4:=ab h4;clear c1 c2 h3 h4;go_enter Tryz.func22,Tryz.ntmps22;go_wp2_with fail;refine(C1.out _ (HB.out _ _)).mono ?_;rintro e w1 ⟨rfl,n1,rfl⟩;go_wp2_with fail;refine(C2.out _ (below_drewN (HB.out _ _) _)).mono ?_;rintro e w1 ⟨rfl,n2,rfl⟩;go_wp2_with fail;go_ret;exact⟨cB (Hd.out _ (by simp only[tg,false_iff];exact fun h=>H4.out h.2.2.2)),below_drewN (HB.out _ _) _⟩
   ·have C1:=ab (fun W=>c1 W false (by simpa using h3));have H3:=ab h3;clear c1 c2 h3;go_enter Tryz.func22,Tryz.ntmps22;go_wp2_with fail;refine(C1.out _ (HB.out _ _)).mono ?_;rintro e w1 ⟨rfl,n1,rfl⟩;go_wp2_with fail;go_ret;exact⟨cB (Hd.out _ (by simp only[tg,false_iff];exact fun h=>H3.out h.2.2.1)),below_drewN (HB.out _ _) _⟩
  ·have e2:(so==eO)=false:=by simpa using h2
   have H2:=ab h2;clear c1 c2 h2;go_enter Tryz.func22,Tryz.ntmps22;go_wp2_with fail;go_ret;exact⟨cB (Hd.out _ (by simp only[tg,false_iff];exact fun h=>H2.out h.2.1)),HB.out _ _⟩
 ·have e1:=zz h1;have H1:=ab h1;clear h1 c1 c2;obtain⟨k0,k1,k2,⟨k3,k4,k5,k6,k7⟩⟩:=se;obtain⟨j0,j1,j2,⟨j3,j4,j5,j6,j7⟩⟩:=te;simp only[Ev.ints] at e1;go_enter Tryz.func22,Tryz.ntmps22;go_wp2_with fail;go_ret;exact⟨cB (Hd.out _ (by simp only[tg,false_iff];exact fun h=>H1.out (Ev.rJ.2 h.1))),HB.out _ _⟩
theorem alb {s t:af}{v u:Value}{w W:World}{x:Bool}(hs:s.In w v)(ht:t.In w u)(hB:Below w.heap.size w W)(hx:decide (s=t)=x):
  Calls Tryz.prog 22 #[v,u] W fun e w'=>e=.returned (.bool x)/\Below W.heap.size W w':=by
 rw[<-hx];exact ala s t v u W (hs.kept hB av) (ht.kept hB av)
theorem alc (l m:List af)(v u:Value)(w:World)(hl:bU w v l)(hm:bU w u m):
  Calls Tryz.prog 20 #[v,u,.func (.func 22) #[] #[]] w fun e w'=>e=.returned (.bool (decide (l=m)))/\Below w.heap.size w w':=by
 obtain⟨ka,ca,rfl,ft⟩:=hl.open;obtain⟨kb,cb,rfl,gr⟩:=hm.open;by_cases hlen:l.length=m.length
 ·have ks:=ab hlen;simp only[<-hlen] at hm⊢;clear hlen gr;have e0:((l.length:Int) !=(l.length:Int))=false:=ae;go_enter Tryz.func20,Tryz.ntmps20;go_wp2_with fail;go_loopw [17] (fun i wr=>∃k:Nat,k<=l.length/\i=.int .i64 k/\Below w.heap.size w wr/\(∀j<k,l[j]? =m[j]?)) (fun i _=>l.length-(intOf i).toNat)
  case atStart=>exact⟨0,aa,rfl,Below.refl _ _,fun j hj=>absurd hj aa⟩
  case round=>
   obtain⟨k,hk,rfl,hB,hE⟩:=hrel;have HE:=ab hE;clear hE;by_cases hlt:k<l.length
   ·have cH:k<m.length:=by have:=ks.out;omega
    obtain⟨b,o,va,vs,rfl,dy,dk,x0,x1,x2,x3,x4,x5,x6,x7,x8,x9,x10⟩:=(hl.kept hB av).at (i:=k) (s:=l[k]) (by simp[hlt]);obtain⟨b',o',ua,us,rfl,oh,om,y0,y1,y2,y3,y4,y5,y6,y7,y8,y9,y10⟩:=(hm.kept hB av).at (i:=k) (s:=m[k]) (by simp[cH]);have vX:=hB.size
    have fC:b<wr.heap.size:=by simpa using ic _ _ x0
    have awH:b'<wr.heap.size:=by simpa using ic _ _ y0
    have c:=fun W x (hx:decide (l[k]=m[k])=x) (hW:Below wr.heap.size wr W)=>alb (W:=W) (x:=x) ⟨va,vs,rfl,dy,dk⟩ ⟨ua,us,rfl,oh,om⟩ hW hx
    obtain⟨pa,fa,rfl,_⟩:=dy.open;obtain⟨ps,fs,rfl,_⟩:=dk.open;obtain⟨ra,ga,rfl,_⟩:=oh.open;obtain⟨rs,gs,rfl,_⟩:=om.open;simp only[af.val,af.row] at c;by_cases hx:l[k]=m[k]
    ·have C:=ab (fun W=>c W true (by simpa using hx));have Hx:=ab hx;clear hx c;go_wp2_with fail;refine(C.out _ bc).mono ?_;rintro e w1 ⟨rfl,ay⟩;have jo:=hB.trans ((Below.then (w:=wr) bc ay).mono hB.size);go_wp2_with fail;go_roundw
     case rel=>
      refine⟨k+1,aa,by go_num,jo,?_⟩;intro j hj;by_cases dx:j=k
      ·subst dx;simp[hlt,cH,Hx.out]
      ·exact HE.out j aa
     case measure=>simp[intOf];omega
    ·have C:=ab (fun W=>c W false (by simpa using hx));have Hx:=ab hx;clear hx c;go_wp2_with fail;refine(C.out _ bc).mono ?_;rintro e w1 ⟨rfl,ay⟩;have jo:=hB.trans ((Below.then (w:=wr) bc ay).mono hB.size);go_wp2_with fail;go_ret;refine⟨cB ?_,jo⟩;symm;rw[lV];intro h;exact Hx.out (by subst h;rfl)
   ·have HA:=ab (zy ks.out (fun j hj=>HE.out j aa));go_wp2_with fail;go_ret;refine⟨cB ?_,hB⟩;symm;rw[Bl,HA.out]
 ·have e0:((l.length:Int) !=(m.length:Int))=true:=by rw[bne_iff_ne];omega
  have ks:=ab hlen;clear hlen;go_enter Tryz.func20,Tryz.ntmps20;go_wp2_with fail;go_ret;refine⟨cB ?_,Below.refl _ _⟩;symm;rw[lV];intro h;exact ks.out (by rw[h])
end
section
open Go.RowKit
structure si (run:List af):Prop where
 len:run.length<=64
 asks:∀s∈run,s.asks.length<=1000000
 sent:∀s∈run,s.sent.length<=1000000
theorem II (a b:List af)(v u:Value)(w:World)(ha:bU w v a)(hb:bU w u b)(pJ:si a)(bH:si b):
  Calls Tryz.prog 7 #[v,u] w fun e w'=>e=.returned (.bool (decide (ix a=ix b)))/\Below w.heap.size w w':=by
 have H1:=ab (Mq a v w ha pJ.len pJ.asks pJ.sent);clear ha;go_enter Tryz.func7,Tryz.ntmps7;go_wp2_with fail;refine H1.out.mono ?_;rintro e w1 ⟨x,rfl,hx,ay⟩;go_wp2_with fail;refine(Mq b u w1 (hb.kept ay av) bH.len bH.asks bH.sent).mono ?_;rintro e w2 ⟨y,rfl,hy,bO⟩;go_wp2_with fail;refine(alc (ix a) (ix b) x y w2 (hx.kept bO av) hy).mono ?_;rintro e w3 ⟨rfl,cy⟩;go_wp2_with fail;go_ret;exact⟨rfl,(ay.trans (bO.mono ay.size)).trans (cy.mono (Nat.le_trans ay.size bO.size))⟩
end
section
open Go.RowKit
def Cf (W:World)(g k:Nat):Prop:=∃(arr:Array Value) (c:Nat->Nat),az W g arr/\arr.size=4/\∀b<4,arr[b]? =some (I (c b:Nat))/\c b<=k
theorem Cf.set {W:World}{g k:Nat}(h:Cf W g k)(b x:Nat)(hx:x<=k+1):Cf (W.setCell ⟨g,b,none⟩ (I (x:Nat))) g (k+1):=by
 obtain⟨arr,c,h1,h2,h3⟩:=h;refine⟨_,fun a=>if a=b then x else c a,h1.set b _,by rw[xx];exact h2,fun a ha=> ?_⟩;by_cases e:a=b
 ·subst e;rw[qq (by rw[h2];exact ha)];simp[hx]
 ·rw[oY (Ne.symm e),(h3 a ha).1];have:=(h3 a ha).2;simp[e];omega
def IJ (l:List Ask):Prop:=l.length<=1/\∀a∈l,a.arity=2/\0<=a.n/\a.n<=1
theorem IJ.nil:IJ []:=⟨ae,fun a ha=>by simp at ha⟩
structure yg (g k:Nat)(w W:World)(vo vf:Value)(steps:List af)(xs:List Value)(fl:List bm)(P:Nat->Prop):Prop where
 iM:Cf W g k
 oo:W.ownsRow (g+1) 67 11 vo steps.length xs
 of:W.ownsRow (g+1) 61 5 vf fl.length (fl.flatMap bm.cells)
 sc:gT P W steps xs
 dj:∀b,vo.ownBlock=some b->vf.ownBlock≠some b
 pl:∀b,P b->g<b/\b<W.heap.size/\vo.ownBlock≠some b/\vf.ownBlock≠some b
 gl:g<W.heap.size
 be:Below g w W
 ok:∀s∈steps,IJ s.asks/\s.sent.length<=2
 nf:fl.length<=2*k
theorem yg.start (w:World)(W:World)(hW:Cf W w.heap.size 0)(hb:Below w.heap.size w W)(hg:w.heap.size<W.heap.size):yg w.heap.size 0 w W (.slice none 0 0) (.slice none 0 0) [] [] [] (fun _=>False) where
 iM:=hW
 oo:=lf _ _ _ _
 of:=lf _ _ _ _
 sc:=rfl
 dj:=fun b h=>by cases h
 pl:=fun b h=>h.elim
 gl:=hg
 be:=hb
 ok:=fun s hs=>by simp at hs
 nf:=ae
theorem jw {W:World}{B:Nat}{e:TypeId}{k:Nat}{v:Value}{n:Nat}{xs:List Value}(h:W.ownsRow B e k v n xs){g:Nat}(hg:v.ownBlock=some g):B<=g/\g<W.heap.size:=h.lt g hg
theorem IK {W:World}{B:Nat}{e:TypeId}{k:Nat}{v:Value}{n:Nat}{xs:List Value}(_:W.ownsRow B e k v n xs){P:Nat->Prop}(hP:∀g,v.ownBlock=some g->P g):kJ P v:=fun b o n c e=>hP b (by rw[e];rfl)
def rowOf (e:Ev)(o:Bool)(va vs:Value):Array Value:=#[I e.kind,I e.node,I e.arg,I e.msg.node,I e.msg.handler,I e.msg.count,I e.msg.index,I e.msg.copy,va,.bool o,vs]
structure RM (g k:Nat)(w wr:World)(fb:Option Nat)(cz:Array Value)(wc:World)(ev:Ev)(ax:Bool)(va:Value)(asks:List Ask)(vs:Value)(sent:List bm)(vf:Value)(fl:List bm):Prop where
 sm:cE (fun b=>b<wr.heap.size/\b≠g/\fb≠some b) wr wc
 iM:Cf wc g (k+1)
 cs:az wc (wr.heap.size+1) cz
 s:az wc wr.heap.size (rowOf ev ax va vs)
 be:Below g w wc
 gl:g<wr.heap.size
 sz:wr.heap.size+2<=wc.heap.size
 fo:wc.ownsRow (g+1) 61 5 vf fl.length (fl.flatMap bm.cells)
 so:wc.ownsRow (wr.heap.size+2) 61 5 vs sent.length (sent.flatMap bm.cells)
 ao:wc.ownsRow (wr.heap.size+2) 100 7 va asks.length (asks.flatMap Ask.cells)
 fd:∀b,vf.ownBlock=some b->fb=some b\/wr.heap.size+2<=b
 sd:∀b,vs.ownBlock=some b->vf.ownBlock≠some b
 ad:∀b,va.ownBlock=some b->vf.ownBlock≠some b/\vs.ownBlock≠some b
theorem RM.kept {g k:Nat}{w wr wc wd:World}{fb:Option Nat}{cz:Array Value}{ev:Ev}{ax:Bool}{va vs vf:Value}{asks:List Ask}{sent fl:List bm}(h:RM g k w wr fb cz wc ev ax va asks vs sent vf fl)(hb:Below wc.heap.size wc wd):
  RM g k w wr fb cz wd ev ax va asks vs sent vf fl:=
 have hS:cE (fun b=>b<wc.heap.size) wc wd:=cE.below hb fun _ h=>h
 have hz:=h.sz;have hg:=h.gl
 { h with
  sm:=h.sm.trans (hS.ox fun b hb=>aa)
  iM:=by obtain⟨a,c,h1,h2⟩:=h.iM;exact⟨a,c,hS.im h1 h1.lt,h2⟩
  cs:=hS.im h.cs h.cs.lt
  s:=hS.im h.s h.s.lt
  be:=h.be.trans (hb.mono aa)
  sz:=Nat.le_trans hz hb.size
  fo:=hS.own h.fo fun g hg=>(jw h.fo hg).2
  so:=hS.own h.so fun g hg=>(jw h.so hg).2
  ao:=hS.own h.ao fun g hg=>(jw h.ao hg).2 }
theorem RM.store {g k:Nat}{w wr wc:World}{fb:Option Nat}{cz:Array Value}{ev Mr:Ev}{ax WU:Bool}{va vs vf:Value}{asks:List Ask}{sent fl:List bm}(h:RM g k w wr fb cz wc ev ax va asks vs sent vf fl)(i:Nat)(x:Value)
  (he:(rowOf ev ax va vs).setIfInBounds i x=rowOf Mr WU va vs) (hf:fb≠some wr.heap.size):RM g k w wr fb cz (wc.setCell ⟨wr.heap.size,i,none⟩ x) Mr WU va asks vs sent vf fl:=
 have hz:=h.sz;have hg:=h.gl;have hS:cE (fun b=>b≠wr.heap.size) wc (wc.setCell ⟨wr.heap.size,i,none⟩ x):=(cE.refl _ wc).set _ _ (fun h=>h rfl)
 { h with
  sm:=h.sm.trans (hS.ox fun b hb=>aa)
  iM:=by obtain⟨a,c,h1,h2⟩:=h.iM;exact⟨a,c,hS.im h1 aa,h2⟩
  cs:=hS.im h.cs aa
  s:=by rw[<-he];exact h.s.set i x
  be:=h.be.setCell (by simp;omega) _
  sz:=by simpa using hz
  fo:=hS.own h.fo fun b hb e=>by
   subst e
   rcases h.fd _ hb with h1|h1
   ·exact hf h1
   ·omega
  so:=hS.own h.so fun b hb=>by have:=(jw h.so hb).1;omega
  ao:=hS.own h.ao fun b hb=>by have:=(jw h.ao hb).1;omega }
theorem RM.aX {g k:Nat}{w wr wc wd:World}{fb:Option Nat}{cz:Array Value}{ev:Ev}{ax:Bool}{va vs vf tH:Value}{asks:List Ask}{sent fl qP:List bm}(h:RM g k w wr fb cz wc ev ax va asks vs sent vf fl)
  (ho:wd.ownsRow (g+1) 61 5 tH qP.length (qP.flatMap bm.cells)) (jq:wc.grownBy wd vf.ownBlock) (hn:∀b,tH.ownBlock=some b->vf.ownBlock=some b\/b=wc.heap.size) (hb:Below g wc wd) (hf:∀b,fb=some b->b<wr.heap.size/\b≠g):
  RM g k w wr fb cz wd ev ax va asks vs sent tH qP:=
 have hz:=h.sz;have hg:=h.gl
 have hS:cE (fun b=>b<wc.heap.size/\vf.ownBlock≠some b) wc wd:=cE.grown jq fun b hb=>⟨hb.1,fun e=>hb.2 e.symm⟩
 have hk:∀b,(b<wr.heap.size+2/\fb≠some b)->b<wc.heap.size/\vf.ownBlock≠some b:=fun b hb=>⟨aa,fun e=>by
  rcases h.fd b e with h1|h1
  ·exact hb.2 h1
  ·omega⟩
 { h with
  sm:=h.sm.trans (hS.ox fun b hb=>hk b ⟨aa,hb.2.2⟩)
  iM:=by obtain⟨a,c,h1,h2⟩:=h.iM;exact⟨a,c,hS.im h1 (hk g ⟨aa,fun e=>(hf g e).2 rfl⟩),h2⟩
  cs:=hS.im h.cs (hk _ ⟨aa,fun e=>by have:=(hf _ e).1;omega⟩)
  s:=hS.im h.s (hk _ ⟨aa,fun e=>by have:=(hf _ e).1;omega⟩)
  be:=h.be.trans hb
  sz:=Nat.le_trans hz jq.size
  fo:=ho
  so:=hS.own h.so fun b hb=>⟨(jw h.so hb).2,h.sd b hb⟩
  ao:=hS.own h.ao fun b hb=>⟨(jw h.ao hb).2,(h.ad b hb).1⟩
  fd:=fun b hb=>by
   rcases hn b hb with h1|h1
   ·exact h.fd b h1
   ·exact .inr aa
  sd:=fun b hb e=>by
   rcases hn b e with h1|h1
   ·exact h.sd b hb h1
   ·have:=(jw h.so hb).2;omega
  ad:=fun b hb=>⟨fun e=>by
   rcases hn b e with h1|h1
   ·exact(h.ad b hb).1 h1
   ·have:=(jw h.ao hb).2;omega,(h.ad b hb).2⟩ }
theorem RM.start {g k:Nat}{w wr:World}{vo vf:Value}{steps:List af}{xs:List Value}{fl:List bm}{P:Nat->Prop}(hR:yg g k w wr vo vf steps xs fl P)(nd x:Nat)(hx:x<=k+1)(cz:Array Value):
  RM g k w wr vf.ownBlock cz (((wr.setCell ⟨g,nd,none⟩ (I (x:Nat))).alloc (.cells (rowOf ⟨0,nd,0,⟨0,0,0,0,0⟩⟩ false (.slice none 0 0) (.slice none 0 0)) 67)).alloc (.cells cz 59)) ⟨0,nd,0,⟨0,0,0,0,0⟩⟩ false (.slice none 0 0) [] (.slice none 0 0) [] vf fl:=
 have hg:=hR.gl
 have hB:Below wr.heap.size (wr.setCell ⟨g,nd,none⟩ (I (x:Nat))) (((wr.setCell ⟨g,nd,none⟩ (I (x:Nat))).alloc (.cells (rowOf ⟨0,nd,0,⟨0,0,0,0,0⟩⟩ false (.slice none 0 0) (.slice none 0 0)) 67)).alloc (.cells cz 59)):=
  ((Below.refl _ _).alloc ae _).alloc ae _
 have hS:cE (fun b=>b<wr.heap.size) (wr.setCell ⟨g,nd,none⟩ (I (x:Nat))) (((wr.setCell ⟨g,nd,none⟩ (I (x:Nat))).alloc (.cells (rowOf ⟨0,nd,0,⟨0,0,0,0,0⟩⟩ false (.slice none 0 0) (.slice none 0 0)) 67)).alloc (.cells cz 59)):=cE.below hB fun _ h=>h
 {
  sm:=((cE.refl _ wr).set _ _ (fun h=>h.2.1 rfl)).trans (hS.ox fun b hb=>hb.1)
  iM:=by
   obtain⟨a,c,h1,h2⟩:=hR.iM.set nd x hx;exact⟨a,c,hS.im h1 hg,h2⟩
  cs:=by
   have:=az.new ((wr.setCell ⟨g,nd,none⟩ (I (x:Nat))).alloc (.cells (rowOf ⟨0,nd,0,⟨0,0,0,0,0⟩⟩ false (.slice none 0 0) (.slice none 0 0)) 67)) cz 59;simpa using this
  s:=by
   have:=(az.new (wr.setCell ⟨g,nd,none⟩ (I (x:Nat))) (rowOf ⟨0,nd,0,⟨0,0,0,0,0⟩⟩ false (.slice none 0 0) (.slice none 0 0)) 67).alloc (.cells cz 59);simpa using this
  be:=(hR.be.setCell av _).trans (hB.mono aa)
  gl:=hg
  sz:=ae
  fo:=hS.own (Il hR.of _ _ ae) fun b hb=>(jw hR.of hb).2
  so:=lf _ _ _ _
  ao:=lf _ _ _ _
  fd:=fun b hb=> .inl hb
  sd:=fun b hb=>by cases hb
  ad:=fun b hb=>by cases hb }
theorem yg.out {g k:Nat}{w wb wc:World}{vo vf tH:Value}{steps:List af}{xs:List Value}{fl qP:List bm}{P:Nat->Prop}{cz:Array Value}{ev:Ev}{ax:Bool}{va vs:Value}{asks:List Ask}{sent:List bm}
  (hR:yg g k w wb vo vf steps xs fl P) (h:RM g k w wb vf.ownBlock cz wc ev ax va asks vs sent tH qP):wc.ownsRow (g+1) 67 11 vo steps.length xs:=
 h.sm.own hR.oo fun b hb=>⟨(jw hR.oo hb).2,by have:=(jw hR.oo hb).1;omega,hR.dj b hb⟩
theorem yg.next {g k:Nat}{w wb wc w8:World}{vo yh vf tH:Value}{steps:List af}{xs:List Value}{fl qP:List bm}{P:Nat->Prop}{cz:Array Value}{ev:Ev}{ax:Bool}{va vs:Value}{asks:List Ask}{sent:List bm}
  (hR:yg g k w wb vo vf steps xs fl P) (h:RM g k w wb vf.ownBlock cz wc ev ax va asks vs sent tH qP) (dM:qP.length<=2*(k+1)) (zH:IJ asks) (cA:sent.length<=2)
  (ho:w8.ownsRow (g+1) 67 11 yh (steps.length+1) (xs++(rowOf ev ax va vs).toList)) (jq:(wc.alloc (.cells (rowOf ev ax va vs) 67)).grownBy w8 vo.ownBlock) (hn:∀b,yh.ownBlock=some b->vo.ownBlock=some b\/b=(wc.alloc (.cells (rowOf ev ax va vs) 67)).heap.size) (hb:Below (g+1) (wc.alloc (.cells (rowOf ev ax va vs) 67)) w8):
  ∃P',yg g (k+1) w w8 yh tH (steps++[⟨ev,asks,ax,sent⟩]) (xs++(rowOf ev ax va vs).toList) qP P':=by
 have hz:=h.sz;have hg:=h.gl;have hA:Below wc.heap.size wc (wc.alloc (.cells (rowOf ev ax va vs) 67)):=(Below.refl _ _).alloc av _
 have yi:wc.heap.size<w8.heap.size:=by have:=jq.size;simp at this;omega
 have hS:cE (fun b=>b<wc.heap.size/\vo.ownBlock≠some b) wc w8:=
  (cE.below hA fun b hb=>hb.1).trans (cE.grown jq fun b hb=>⟨by simp;omega,fun e=>hb.2 e.symm⟩)
 have ng:∀b,vo.ownBlock=some b->b<wb.heap.size/\g<b:=fun b hb=>by have:=jw hR.oo hb;omega
 have WV:∀b,tH.ownBlock=some b->vo.ownBlock≠some b:=fun b hb e=>by
  rcases h.fd b hb with h1|h1
  ·exact hR.dj b e h1
  ·have:=(ng b e).1;omega
 have hPf:∀b,P b->tH.ownBlock≠some b:=fun b hb e=>by
  rcases h.fd b e with h1|h1
  ·exact(hR.pl b hb).2.2.2 h1
  ·have:=(hR.pl b hb).2.1;omega
 have sj:∀b,yh.ownBlock=some b->vo.ownBlock=some b\/wc.heap.size<b:=fun b hb=>by
  rcases hn b hb with h1|h1
  ·exact .inl h1
  ·simp at h1;exact .inr aa
 have pG:∀b,b<wb.heap.size->b<wc.heap.size:=fun b hb=>aa
 refine⟨fun b=>P b\/va.ownBlock=some b\/vs.ownBlock=some b,?_,?_,?_,?_,?_,?_,?_,?_,?_,?_⟩
 ·obtain⟨a,c,h1,h2⟩:=h.iM;exact⟨a,c,hS.im h1 ⟨aa,fun e=>by have:=(ng _ e).2;omega⟩,h2⟩
 ·rw[List.length_append];exact ho
 ·exact hS.own h.fo fun b hb=>⟨(jw h.fo hb).2,WV b hb⟩
 ·have h1:=(hR.sc.kept (h.sm.ox fun b hb=>⟨(hR.pl b hb).2.1,by have:=(hR.pl b hb).1;omega,(hR.pl b hb).2.2.2⟩)).kept (hS.ox fun b hb=>⟨pG b (hR.pl b hb).2.1,(hR.pl b hb).2.2.1⟩)
  have ha:=hS.own h.ao fun b hb=>⟨(jw h.ao hb).2,fun e=>by have:=(ng _ e).1;have:=(jw h.ao hb).1;omega⟩
  have hs:=hS.own h.so fun b hb=>⟨(jw h.so hb).2,fun e=>by have:=(ng _ e).1;have:=(jw h.so hb).1;omega⟩
  exact(h1.ox fun b hb=> .inl hb).snoc (s:=⟨ev,asks,ax,sent⟩) ⟨Flat.iU ha,IK ha fun b hb=> .inr (.inl hb)⟩ ⟨Flat.iU hs,IK hs fun b hb=> .inr (.inr hb)⟩
 ·intro b hb e
  rcases sj b hb with h1|h1
  ·exact WV b e h1
  ·have:=(jw h.fo e).2;omega
 ·intro b hb
  rcases hb with hb|hb|hb
  ·have h1:=hR.pl b hb
   exact⟨h1.1,aa,fun e=>by
    rcases sj b e with h2|h2
    ·exact h1.2.2.1 h2
    ·omega,hPf b hb⟩
  ·have h1:=jw h.ao hb
   exact⟨aa,aa,fun e=>by
    rcases sj b e with h2|h2
    ·have:=(ng _ h2).1;omega
    ·omega,(h.ad b hb).1⟩
  ·have h1:=jw h.so hb
   exact⟨aa,aa,fun e=>by
    rcases sj b e with h2|h2
    ·have:=(ng _ h2).1;omega
    ·omega,h.sd b hb⟩
 ·omega
 ·exact(h.be.trans (hA.mono aa)).trans (hb.mono aa)
 ·intro s hs
  rcases fA.1 hs with h1|h1
  ·exact hR.ok s h1
  ·simp at h1;subst h1;exact⟨zH,cA⟩
 ·exact dM
end
section
open Go.RowKit
def yj (n:Int):Prop:= -9223372036854775808<=n/\n<=9223372036854775807
end
end Go.Proofs.YtlnghiefahcnpaaGreat
