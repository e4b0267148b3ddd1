import Derived.Test.YtlnghiefahcnpaaGreatQ28
import Derived.OpenShut
import Derived.Test.YtlnghiefahcnpaaGreatQ5
set_option maxHeartbeats 40000000
set_option maxRecDepth 100000
set_option linter.all false
namespace Go.Proofs.YtlnghiefahcnpaaGreat
section
open Go.RowKit
theorem ald (s:af)(qa qs:Option Addr)(na da ns ds q:Nat)(n:Int)(w:World)(hq:w.cell? ⟨q,0,none⟩=some (I n)):
  Calls Tryz.prog 47 #[s.val (.slice qa na da) (.slice qs ns ds),.pointer (some ⟨q,0,none⟩)] w fun e w'=>e=.returned (.bool (s.ev.node==n))/\Below w.heap.size w w':=by
 have eY:q<w.heap.size:=by simpa using ic _ _ hq
 simp only[af.val,af.row];go_enter Tryz.func47,Tryz.ntmps47;go_wp2_with fail;go_ret;exact⟨ae,bc⟩
theorem ale (l:List af)(q:Nat)(n:Int)(v:Value)(w:World)(hl:bU w v l)(hq:w.cell? ⟨q,0,none⟩=some (I n))(hs:l.length<=1000000):
  Calls Tryz.prog 46 #[v,.func (.func 47) #[] #[.pointer (some ⟨q,0,none⟩)]] w fun e w'=>∃u,e=.returned u/\bU w' u (l.filter fun s=>(s.ev.node==n))/\Below w.heap.size w w':=by
 have c:∀(s:af) (qa qs:Option Addr) (na da ns ds:Nat) (x:Bool) (hx:(s.ev.node==n)=x) (W:World),Below w.heap.size w W->Calls Tryz.prog 47 #[s.val (.slice qa na da) (.slice qs ns ds),.pointer (some ⟨q,0,none⟩)] W fun e w'=>e=.returned (.bool x)/\Below W.heap.size W w':=fun s qa qs na da ns ds x hx W hB=>hx▸ald s qa qs na da ns ds q n W ((hB.cell (p:=⟨q,0,none⟩) (by simpa using ic _ _ hq)).trans hq)
 simp only[af.val,af.row] at c;have C:=ab c;clear c hq;obtain⟨ka,ca,rfl,ft⟩:=hl.open;go_enter Tryz.func46,Tryz.ntmps46;go_wp2_with fail
 go_loopw [5,10] (fun v i wr=>∃(k m:Nat) (xs:List Value),k<=l.length/\i=.int .i64 k/\m<=k/\wr.ownsRow w.heap.size 67 11 v m xs/\m=((l.take k).filter fun s=>(s.ev.node==n)).length/\
   eb w ((l.take k).filter fun s=>(s.ev.node==n)) xs/\Below w.heap.size w wr) (fun _ i _=>l.length-(intOf i).toNat)
 case atStart=>exact⟨0,0,[],aa,rfl,aa,lf _ _ _ _,rfl,rfl,Below.refl _ _⟩
 case round=>
  obtain⟨k,m,xs,hk,rfl,xS,bE,hm,hcs,hB⟩:=hrel;have Hm:=ab hm;clear hm;by_cases hlt:k<l.length
  ·obtain⟨b,o,va,vs,rfl,dy,dk,x0,x1,x2,x3,x4,x5,x6,x7,x8,x9,x10⟩:=hl.at (i:=k) (s:=l[k]) (by simp[hlt]);obtain⟨qa,da,rfl,_⟩:=dy.open;obtain⟨qs,ds,rfl,_⟩:=dk.open;have hcc:=iW hB;have vX:=hB.size
   have fC:b<w.heap.size:=by simpa using ic _ _ x0
   have cm:l.take (k+1)=l.take k++[l[k]]:=by rw[ki hlt]
   by_cases hx:(l[k].ev.node==n)=true
   ·have hc:=C.out l[k] qa qs l[k].asks.length da l[k].sent.length ds true hx;have Hc:=ab hc;have Hx:=ab hx;have Ht:=ab cm;clear hx cm hc;go_wp2_with fail;refine(Hc.out _ (hB.alloc vX _)).mono ?_;rintro e w1 ⟨rfl,ay⟩;have ij:=ay.size;simp only[rI] at ij;have bH:=(az.new wr #[I l[k].ev.kind,I l[k].ev.node,I l[k].ev.arg,I l[k].ev.msg.node,I l[k].ev.msg.handler,I l[k].ev.msg.count,I l[k].ev.msg.index,I l[k].ev.msg.copy,.slice qa l[k].asks.length da,.bool l[k].ax,.slice qs l[k].sent.length ds] 67).kept ay ae;have awI:=bH.cell;have tI:=zA (bE.alloc _) ay;have oy:=(hB.alloc vX (.cells #[I l[k].ev.kind,I l[k].ev.node,I l[k].ev.arg,I l[k].ev.msg.node,I l[k].ev.msg.handler,I l[k].ev.msg.count,I l[k].ev.msg.index,I l[k].ev.msg.copy,.slice qa l[k].asks.length da,.bool l[k].ax,.slice qs l[k].sent.length ds] 67)).trans (ay.mono (by simp only[rI];omega));clear hcc
    go_wp2_with (at_builtin;refine Bu rfl _ _ 28 rfl 67 _ 11 120 Tryz.underlying28 Bv rfl aa aa w.heap.size _ m xs rfl (tI.alloc _) w1.heap.size 1 1 _ 67 rfl (jH _ _) rfl rfl aa aa (by simp;omega) ?_;intro g cap w2 eP qI xU xV jq bO)
    go_roundw
    case rel=>
     refine⟨k+1,m+1,_,aa,by go_num,aa,xV,?_,?_,(oy.alloc aa _).trans bO⟩
     ·rw[Ht.out,fY,List.length_append,<-Hm.out];simp[Hx.out]
     ·rw[Ht.out,fY];refine eb.append hcs ?_;have h1:=eb.one dy dk;unfold af.row at h1;simpa [oe,Hx.out] using h1
    case measure=>simp[intOf];omega
   ·have hq:((l[k].ev.node==n))=false:=by simpa using hx
    have hc:=C.out l[k] qa qs l[k].asks.length da l[k].sent.length ds false hq;have Hc:=ab hc;have Hq:=ab hq;have Ht:=ab cm;clear hx cm hc hq;go_wp2_with fail;refine(Hc.out _ (hB.alloc vX _)).mono ?_;rintro e w1 ⟨rfl,ay⟩;have ij:=ay.size;simp only[rI] at ij;have tI:=zA (bE.alloc _) ay;have oy:=(hB.alloc vX (.cells #[I l[k].ev.kind,I l[k].ev.node,I l[k].ev.arg,I l[k].ev.msg.node,I l[k].ev.msg.handler,I l[k].ev.msg.count,I l[k].ev.msg.index,I l[k].ev.msg.copy,.slice qa l[k].asks.length da,.bool l[k].ax,.slice qs l[k].sent.length ds] 67)).trans (ay.mono (by simp only[rI];omega));go_wp2_with fail;go_roundw
    case rel=>
     refine⟨k+1,m,xs,aa,by go_num,aa,tI,?_,?_,oy⟩
     ·rw[Ht.out,fY,List.length_append,<-Hm.out];simp[Hq.out]
     ·rw[Ht.out,fY];simpa [oe,Hq.out] using hcs
    case measure=>simp[intOf];omega
  ·go_wp2_with fail;go_ret;refine⟨_,rfl,?_,hB⟩;rw[List.take_of_length_le aa] at hcs Hm;exact bU.iU bE Hm.out hcs hB av
theorem alf (l:List af)(n:Int)(v:Value)(w:World)(hl:bU w v l)(hs:l.length<=1000000)(rP:∀s∈l,s.asks.length<=1000000)(rQ:∀s∈l,s.sent.length<=1000000):
  Calls Tryz.prog 26 #[v,I n] w fun e w'=>∃u,e=.returned u/\bU w' u (l.filter fun s=>s.ev.node==n)/\Below w.heap.size w w':=by
 have hb:Below w.heap.size w (w.alloc (.cells #[I n] 3)):=bc;have C:=ab (ajL l v _ (hl.kept hb av) hs rP rQ);have hq:(w.alloc (.cells #[I n] 3)).cell? ⟨w.heap.size,0,none⟩=some (I n):=(az.new w #[I n] 3).cell 0;have Hq:=ab hq;obtain⟨ka,ca,rfl,ft⟩:=hl.open;clear hq;go_enter Tryz.func26,Tryz.ntmps26;go_wp2_with fail;refine C.out.mono ?_;rintro e w1 ⟨u,rfl,hu,ay⟩;go_wp2_with fail;refine(ale l _ _ _ _ hu ((ay.cell (p:=⟨w.heap.size,0,none⟩) ae).trans Hq.out) hs).mono ?_;rintro e w2 ⟨u2,rfl,Cg,bO⟩;go_wp2_with fail;go_ret;exact⟨_,rfl,Cg,Below.then (Below.then hb ay) bO⟩
end
section
open Go.RowKit
def bare (e:Ev)(o:Bool):af:=⟨e,[],o,[]⟩
def Ms (e:Ev)(o:Bool):Array Value:=#[I e.kind,I e.node,I e.arg,I e.msg.node,I e.msg.handler,I e.msg.count,I e.msg.index,I e.msg.copy,.slice none 0 0,.bool o,.slice none 0 0]
theorem WW (w:World):∀l:List (Ev×Bool),eb w (l.map fun p=>bare p.1 p.2) (l.flatMap fun p=>(Ms p.1 p.2).toList)
 |[]=>rfl
 |_::l=>⟨.slice none 0 0,.slice none 0 0,_,rfl,Flat.nil _ _ _ _,Flat.nil _ _ _ _,WW w l⟩
theorem Ch {w:World}{g:Nat}{cs:Array Value}(h:az w g cs)(l:List (Ev×Bool))(hc:cs.toList=l.flatMap fun p=>(Ms p.1 p.2).toList)(hl:l.length<=1000):
  bU w (.slice (some ⟨g,0,none⟩) l.length l.length) (l.map fun p=>bare p.1 p.2):=by
 refine⟨_,WW w l,?_⟩;have hlen:(l.flatMap fun p=>(Ms p.1 p.2).toList).length=l.length*11:=Bq _ 11 (fun _=>rfl) l;rw[List.length_map]
 refine Flat.Bs hlen aa fun j u hu=> ?_
 rw[fK,h.cell j,<-hu,<-hc];simp
def dp:Ev:=⟨4,1,0,⟨0,0,0,0,0⟩⟩
def jx:Ev:=⟨4,0,0,⟨0,0,0,0,0⟩⟩
def stA:af:=bare dp false
def iZ:af:=bare jx false
theorem alg:ix [stA,iZ]=[iZ,stA]:=ai
theorem norm_eq:ix [stA,iZ]=ix [iZ,stA]:=ai
theorem alh:ix [stA]≠ix [iZ]:=ai
theorem Ci (l:List (Ev×Bool))(h:l.length<=2):si (l.map fun p=>bare p.1 p.2):=⟨by rw[List.length_map];omega,fun s hs=>by
 obtain⟨p,_,rfl⟩:=fZ.1 hs
 simp[bare],fun s hs=>by
 obtain⟨p,_,rfl⟩:=fZ.1 hs
 simp[bare]⟩
theorem IL (w:World)(X Y:Array Value):az ((w.alloc (.cells X 67)).alloc (.cells Y 67)).drew w.heap.size X/\az ((w.alloc (.cells X 67)).alloc (.cells Y 67)).drew (w.heap.size+1) Y:=by
 refine⟨((az.new w X 67).alloc _).drew,?_⟩;have:=(az.new (w.alloc (.cells X 67)) Y 67).drew;simpa using this
theorem yk (w:World)(X Y:Array Value):az ((w.alloc (.cells X 67)).alloc (.cells Y 67)) w.heap.size X/\az ((w.alloc (.cells X 67)).alloc (.cells Y 67)) (w.heap.size+1) Y:=by
 refine⟨(az.new w X 67).alloc _,?_⟩;have:=az.new (w.alloc (.cells X 67)) Y 67;simpa using this
theorem WX (w:World)(g1 g2:Nat)(h1:az w g1 #[I 4,I 1,I 0,I 0,I 0,I 0,I 0,I 0,.slice none 0 0,.bool false,.slice none 0 0,I 4,I 0,I 0,I 0,I 0,I 0,I 0,I 0,.slice none 0 0,.bool false,.slice none 0 0])(h2:az w g2 #[I 4,I 0,I 0,I 0,I 0,I 0,I 0,I 0,.slice none 0 0,.bool false,.slice none 0 0,I 4,I 1,I 0,I 0,I 0,I 0,I 0,I 0,.slice none 0 0,.bool false,.slice none 0 0]):Calls Tryz.prog 7 #[.slice (some ⟨g1,0,none⟩) 2 2,.slice (some ⟨g2,0,none⟩) 2 2] w fun e w'=>e=.returned (.bool true)/\Below w.heap.size w w':=by
 have:=II [stA,iZ] [iZ,stA] _ _ w (Ch h1 [(dp,false),(jx,false)] rfl ae) (Ch h2 [(jx,false),(dp,false)] rfl ae) (Ci [(dp,false),(jx,false)] ae) (Ci [(jx,false),(dp,false)] ae);rwa[ll norm_eq] at this
theorem IM (w:World)(g1 g2:Nat)(h1:az w g1 #[I 4,I 1,I 0,I 0,I 0,I 0,I 0,I 0,.slice none 0 0,.bool false,.slice none 0 0])(h2:az w g2 #[I 4,I 0,I 0,I 0,I 0,I 0,I 0,I 0,.slice none 0 0,.bool false,.slice none 0 0]):Calls Tryz.prog 7 #[.slice (some ⟨g1,0,none⟩) 1 1,.slice (some ⟨g2,0,none⟩) 1 1] w fun e w'=>e=.returned (.bool false)/\Below w.heap.size w w':=by
 have:=II [stA] [iZ] _ _ w (Ch h1 [(dp,false)] rfl ae) (Ch h2 [(jx,false)] rfl ae) (Ci [(dp,false)] ae) (Ci [(jx,false)] ae);rwa[pg alh] at this
theorem ali (w:World):Calls Tryz.prog 9 #[] w fun e w'=>e=.returned (.bool true)/\Below w.heap.size w w':=by
 go_enter Tryz.func9,Tryz.ntmps9;go_wp2_with fail;have zE:az (((w.alloc (.cells #[I 4,I 1,I 0,I 0,I 0,I 0,I 0,I 0,.slice none 0 0,.bool false,.slice none 0 0] 67)).alloc (.cells #[I 4,I 0,I 0,I 0,I 0,I 0,I 0,I 0,.slice none 0 0,.bool false,.slice none 0 0] 67)).alloc (.cells #[I 4,I 1,I 0,I 0,I 0,I 0,I 0,I 0,.slice none 0 0,.bool false,.slice none 0 0,I 4,I 0,I 0,I 0,I 0,I 0,I 0,I 0,.slice none 0 0,.bool false,.slice none 0 0] 67)) w.heap.size #[I 4,I 1,I 0,I 0,I 0,I 0,I 0,I 0,.slice none 0 0,.bool false,.slice none 0 0]:=((az.new _ _ _).alloc _).alloc _
 have Mt:az (((w.alloc (.cells #[I 4,I 1,I 0,I 0,I 0,I 0,I 0,I 0,.slice none 0 0,.bool false,.slice none 0 0] 67)).alloc (.cells #[I 4,I 0,I 0,I 0,I 0,I 0,I 0,I 0,.slice none 0 0,.bool false,.slice none 0 0] 67)).alloc (.cells #[I 4,I 1,I 0,I 0,I 0,I 0,I 0,I 0,.slice none 0 0,.bool false,.slice none 0 0,I 4,I 0,I 0,I 0,I 0,I 0,I 0,I 0,.slice none 0 0,.bool false,.slice none 0 0] 67)) (w.heap.size+1) #[I 4,I 0,I 0,I 0,I 0,I 0,I 0,I 0,.slice none 0 0,.bool false,.slice none 0 0]:=by
  have:=(az.new (w.alloc (.cells #[I 4,I 1,I 0,I 0,I 0,I 0,I 0,I 0,.slice none 0 0,.bool false,.slice none 0 0] 67)) #[I 4,I 0,I 0,I 0,I 0,I 0,I 0,I 0,.slice none 0 0,.bool false,.slice none 0 0] 67).alloc (.cells #[I 4,I 1,I 0,I 0,I 0,I 0,I 0,I 0,.slice none 0 0,.bool false,.slice none 0 0,I 4,I 0,I 0,I 0,I 0,I 0,I 0,I 0,.slice none 0 0,.bool false,.slice none 0 0] 67);simpa using this
 have WY:az (((w.alloc (.cells #[I 4,I 1,I 0,I 0,I 0,I 0,I 0,I 0,.slice none 0 0,.bool false,.slice none 0 0] 67)).alloc (.cells #[I 4,I 0,I 0,I 0,I 0,I 0,I 0,I 0,.slice none 0 0,.bool false,.slice none 0 0] 67)).alloc (.cells #[I 4,I 1,I 0,I 0,I 0,I 0,I 0,I 0,.slice none 0 0,.bool false,.slice none 0 0,I 4,I 0,I 0,I 0,I 0,I 0,I 0,I 0,.slice none 0 0,.bool false,.slice none 0 0] 67)) (w.heap.size+1+1) #[I 4,I 1,I 0,I 0,I 0,I 0,I 0,I 0,.slice none 0 0,.bool false,.slice none 0 0,I 4,I 0,I 0,I 0,I 0,I 0,I 0,I 0,.slice none 0 0,.bool false,.slice none 0 0]:=by
  have:=az.new ((w.alloc (.cells #[I 4,I 1,I 0,I 0,I 0,I 0,I 0,I 0,.slice none 0 0,.bool false,.slice none 0 0] 67)).alloc (.cells #[I 4,I 0,I 0,I 0,I 0,I 0,I 0,I 0,.slice none 0 0,.bool false,.slice none 0 0] 67)) #[I 4,I 1,I 0,I 0,I 0,I 0,I 0,I 0,.slice none 0 0,.bool false,.slice none 0 0,I 4,I 0,I 0,I 0,I 0,I 0,I 0,I 0,.slice none 0 0,.bool false,.slice none 0 0] 67;simpa using this
 have rT:Below w.heap.size w (((w.alloc (.cells #[I 4,I 1,I 0,I 0,I 0,I 0,I 0,I 0,.slice none 0 0,.bool false,.slice none 0 0] 67)).alloc (.cells #[I 4,I 0,I 0,I 0,I 0,I 0,I 0,I 0,.slice none 0 0,.bool false,.slice none 0 0] 67)).alloc (.cells #[I 4,I 1,I 0,I 0,I 0,I 0,I 0,I 0,.slice none 0 0,.bool false,.slice none 0 0,I 4,I 0,I 0,I 0,I 0,I 0,I 0,I 0,.slice none 0 0,.bool false,.slice none 0 0] 67)):=(((Below.refl _ _).alloc av _).alloc ae _).alloc (by simp;omega) _;have cA:bU (((w.alloc (.cells #[I 4,I 1,I 0,I 0,I 0,I 0,I 0,I 0,.slice none 0 0,.bool false,.slice none 0 0] 67)).alloc (.cells #[I 4,I 0,I 0,I 0,I 0,I 0,I 0,I 0,.slice none 0 0,.bool false,.slice none 0 0] 67)).alloc (.cells #[I 4,I 1,I 0,I 0,I 0,I 0,I 0,I 0,.slice none 0 0,.bool false,.slice none 0 0,I 4,I 0,I 0,I 0,I 0,I 0,I 0,I 0,.slice none 0 0,.bool false,.slice none 0 0] 67)) (.slice (some ⟨w.heap.size+1+1,0,none⟩) 2 2) [stA,iZ]:=Ch WY [(dp,false),(jx,false)] rfl ae;have eg:=Ci [(dp,false),(jx,false)] ae;refine(Mq [stA,iZ] _ _ cA eg.len eg.asks eg.sent).mono ?_;rintro e w3 ⟨u,rfl,hu,cy⟩;rw[alg] at hu;have pK:=zE.kept cy zE.lt;have oG:=Mt.kept cy Mt.lt;have Vj:Below w.heap.size w w3:=rT.trans (cy.mono rT.size);obtain⟨ku,cu,Cg,_⟩:=hu.open;obtain rfl:u=.slice ku 2 cu:=Cg;have Hu:=ab hu;have Iq:=ab pK;have HbB:=ab oG;have WZ:w3.cell? ⟨w.heap.size,0,none⟩=some (I 4):=pK.cell 0;have Xa:w3.cell? ⟨w.heap.size,1,none⟩=some (I 1):=pK.cell 1;have IB:w3.cell? ⟨w.heap.size,2,none⟩=some (I 0):=pK.cell 2;have Xb:w3.cell? ⟨w.heap.size,3,none⟩=some (I 0):=pK.cell 3;have Xc:w3.cell? ⟨w.heap.size,4,none⟩=some (I 0):=pK.cell 4;have Xd:w3.cell? ⟨w.heap.size,5,none⟩=some (I 0):=pK.cell 5;have Xe:w3.cell? ⟨w.heap.size,6,none⟩=some (I 0):=pK.cell 6;have Xf:w3.cell? ⟨w.heap.size,7,none⟩=some (I 0):=pK.cell 7;have Xg:w3.cell? ⟨w.heap.size,8,none⟩=some (.slice none 0 0):=pK.cell 8;have Xh:w3.cell? ⟨w.heap.size,9,none⟩=some (.bool false):=pK.cell 9;have Xi:w3.cell? ⟨w.heap.size,10,none⟩=some (.slice none 0 0):=pK.cell 10;have Xj:w3.cell? ⟨w.heap.size+1,0,none⟩=some (I 4):=oG.cell 0;have Xk:w3.cell? ⟨w.heap.size+1,1,none⟩=some (I 0):=oG.cell 1;have Xl:w3.cell? ⟨w.heap.size+1,2,none⟩=some (I 0):=oG.cell 2;have Xm:w3.cell? ⟨w.heap.size+1,3,none⟩=some (I 0):=oG.cell 3;have Xn:w3.cell? ⟨w.heap.size+1,4,none⟩=some (I 0):=oG.cell 4;have Xo:w3.cell? ⟨w.heap.size+1,5,none⟩=some (I 0):=oG.cell 5;have Xp:w3.cell? ⟨w.heap.size+1,6,none⟩=some (I 0):=oG.cell 6;have Xq:w3.cell? ⟨w.heap.size+1,7,none⟩=some (I 0):=oG.cell 7;have Xr:w3.cell? ⟨w.heap.size+1,8,none⟩=some (.slice none 0 0):=oG.cell 8;have Xs:w3.cell? ⟨w.heap.size+1,9,none⟩=some (.bool false):=oG.cell 9;have Xt:w3.cell? ⟨w.heap.size+1,10,none⟩=some (.slice none 0 0):=oG.cell 10;have wk:w.heap.size+1<w3.heap.size:=oG.lt;have awJ:w.heap.size<w3.heap.size:=aa;clear zE Mt WY rT cA eg cy pK oG hu;go_wp2_with fail;have Xu:az (w3.alloc (.cells #[I 4,I 1,I 0,I 0,I 0,I 0,I 0,I 0,.slice none 0 0,.bool false,.slice none 0 0,I 4,I 0,I 0,I 0,I 0,I 0,I 0,I 0,.slice none 0 0,.bool false,.slice none 0 0] 67)) w3.heap.size #[I 4,I 1,I 0,I 0,I 0,I 0,I 0,I 0,.slice none 0 0,.bool false,.slice none 0 0,I 4,I 0,I 0,I 0,I 0,I 0,I 0,I 0,.slice none 0 0,.bool false,.slice none 0 0]:=az.new _ _ _;have cA:bU (w3.alloc (.cells #[I 4,I 1,I 0,I 0,I 0,I 0,I 0,I 0,.slice none 0 0,.bool false,.slice none 0 0,I 4,I 0,I 0,I 0,I 0,I 0,I 0,I 0,.slice none 0 0,.bool false,.slice none 0 0] 67)) (.slice (some ⟨w3.heap.size,0,none⟩) 2 2) [stA,iZ]:=Ch Xu [(dp,false),(jx,false)] rfl ae;have eg:=Ci [(dp,false),(jx,false)] ae;refine(alf [stA,iZ] 1 _ _ cA ae eg.asks eg.sent).mono ?_;rintro e w4 ⟨x,rfl,hx,mg⟩;have EC:Below w3.heap.size w3 w4:=Below.then (w:=w3) ((Below.refl _ _).alloc av _) mg;have dM:([stA,iZ].filter fun s=>s.ev.node==1)=[stA]:=ai;rw[dM] at hx;obtain⟨kx,cx,wm,_⟩:=hx.open;obtain rfl:x=.slice kx 1 cx:=wm;clear cA eg Xu hx dM WZ Xa IB Xb Xc Xd Xe Xf Xg Xh Xi Xj Xk Xl Xm Xn Xo Xp Xq Xr Xs Xt;go_wp2_with fail;have pL:=Iq.out.kept EC aa;have pM:=HbB.out.kept EC aa;have Cj:=Hu.out.kept EC av;obtain⟨kb,ko,va,vs,rfl,_,_,y0,y1,y2,y3,y4,y5,y6,y7,_⟩:=Cj.at (i:=0) (s:=iZ) rfl;obtain⟨kb',ko',iV,xF,ed,_,_,z0,z1,z2,z3,z4,z5,z6,z7,_⟩:=Cj.at (i:=1) (s:=stA) rfl;simp at ed;obtain⟨rfl,rfl⟩:=ed
 have Y0:w4.cell? ⟨kb,ko,none⟩=some (I 4):=by simpa [iZ,bare,jx] using y0
 have Y1:w4.cell? ⟨kb,ko+1,none⟩=some (I 0):=by simpa [iZ,bare,jx] using y1
 have Y2:w4.cell? ⟨kb,ko+2,none⟩=some (I 0):=by simpa [iZ,bare,jx] using y2
 have Y3:w4.cell? ⟨kb,ko+3,none⟩=some (I 0):=by simpa [iZ,bare,jx] using y3
 have Y4:w4.cell? ⟨kb,ko+4,none⟩=some (I 0):=by simpa [iZ,bare,jx] using y4
 have Y5:w4.cell? ⟨kb,ko+5,none⟩=some (I 0):=by simpa [iZ,bare,jx] using y5
 have Y6:w4.cell? ⟨kb,ko+6,none⟩=some (I 0):=by simpa [iZ,bare,jx] using y6
 have Y7:w4.cell? ⟨kb,ko+7,none⟩=some (I 0):=by simpa [iZ,bare,jx] using y7
 have Z0:w4.cell? ⟨kb,ko+11,none⟩=some (I 4):=by simpa [stA,bare,dp] using z0
 have Z1:w4.cell? ⟨kb,ko+11+1,none⟩=some (I 1):=by simpa [stA,bare,dp] using z1
 have Z2:w4.cell? ⟨kb,ko+11+2,none⟩=some (I 0):=by simpa [stA,bare,dp] using z2
 have Z3:w4.cell? ⟨kb,ko+11+3,none⟩=some (I 0):=by simpa [stA,bare,dp] using z3
 have Z4:w4.cell? ⟨kb,ko+11+4,none⟩=some (I 0):=by simpa [stA,bare,dp] using z4
 have Z5:w4.cell? ⟨kb,ko+11+5,none⟩=some (I 0):=by simpa [stA,bare,dp] using z5
 have Z6:w4.cell? ⟨kb,ko+11+6,none⟩=some (I 0):=by simpa [stA,bare,dp] using z6
 have Z7:w4.cell? ⟨kb,ko+11+7,none⟩=some (I 0):=by simpa [stA,bare,dp] using z7
 clear y0 z0 y1 z1 y2 z2 y3 z3 y4 z4 y5 z5 y6 z6 y7 z7;have WZ:w4.cell? ⟨w.heap.size,0,none⟩=some (I 4):=pL.cell 0;have Xa:w4.cell? ⟨w.heap.size,1,none⟩=some (I 1):=pL.cell 1;have IB:w4.cell? ⟨w.heap.size,2,none⟩=some (I 0):=pL.cell 2;have Xb:w4.cell? ⟨w.heap.size,3,none⟩=some (I 0):=pL.cell 3;have Xc:w4.cell? ⟨w.heap.size,4,none⟩=some (I 0):=pL.cell 4;have Xd:w4.cell? ⟨w.heap.size,5,none⟩=some (I 0):=pL.cell 5;have Xe:w4.cell? ⟨w.heap.size,6,none⟩=some (I 0):=pL.cell 6;have Xf:w4.cell? ⟨w.heap.size,7,none⟩=some (I 0):=pL.cell 7;have Xg:w4.cell? ⟨w.heap.size,8,none⟩=some (.slice none 0 0):=pL.cell 8;have Xh:w4.cell? ⟨w.heap.size,9,none⟩=some (.bool false):=pL.cell 9;have Xi:w4.cell? ⟨w.heap.size,10,none⟩=some (.slice none 0 0):=pL.cell 10;have Xj:w4.cell? ⟨w.heap.size+1,0,none⟩=some (I 4):=pM.cell 0;have Xk:w4.cell? ⟨w.heap.size+1,1,none⟩=some (I 0):=pM.cell 1;have Xl:w4.cell? ⟨w.heap.size+1,2,none⟩=some (I 0):=pM.cell 2;have Xm:w4.cell? ⟨w.heap.size+1,3,none⟩=some (I 0):=pM.cell 3;have Xn:w4.cell? ⟨w.heap.size+1,4,none⟩=some (I 0):=pM.cell 4;have Xo:w4.cell? ⟨w.heap.size+1,5,none⟩=some (I 0):=pM.cell 5;have Xp:w4.cell? ⟨w.heap.size+1,6,none⟩=some (I 0):=pM.cell 6;have Xq:w4.cell? ⟨w.heap.size+1,7,none⟩=some (I 0):=pM.cell 7;have Xr:w4.cell? ⟨w.heap.size+1,8,none⟩=some (.slice none 0 0):=pM.cell 8;have Xs:w4.cell? ⟨w.heap.size+1,9,none⟩=some (.bool false):=pM.cell 9;have Xt:w4.cell? ⟨w.heap.size+1,10,none⟩=some (.slice none 0 0):=pM.cell 10
 have Mk:kb<w4.heap.size:=by simpa using ic _ _ Y0
 have cn:w.heap.size<w4.heap.size:=pL.lt;have pE:w.heap.size+1<w4.heap.size:=pM.lt;have yl:Below w.heap.size w w4:=Vj.trans (EC.mono aa);clear pL pM Cj EC;refine Uj 30 (.take 0 (.take 1 (.take 2 (.take 3 (.take 4 (.take 5 (.take 6 (.take 7 (.take 8 (.take 9 (.take 10 (.take 11 (.take 12 (.take 13 (.take 14 (.take 15 (.take 16 (.take 17 (.take 18 (.take 20 (.take 21 (.fork 19 22 (.move 22 (.move 23 (.take 24 (.take 25 (.take 26 (.take 28 (.fork 27 29 (.move 29 .nil) (.move 27 .nil)))))))) (.move 19 (.move 23 (.take 24 (.take 25 (.take 26 (.take 28 (.fork 27 29 (.move 29 .nil) (.move 27 .nil)))))))))))))))))))))))))))))) (fun w'=>∀b o,b<w4.heap.size->w'.cell? ⟨b,o,none⟩=w4.cell? ⟨b,o,none⟩) ah rfl ah (fun _ _ _=>rfl) ?_
 iterate 17 refine HR ?_
 iterate 4 refine HR ?_
 have awK:w.heap.size<=w4.heap.size:=aa;refine Lj ?_ ?_
 ·(refine ot rfl (fun K hK=> ?_);go_simp;refine hK.out _ _ ?_ ?_)
  ·intro b o hb;exact(show Below w4.heap.size w4 _ from bc).cell (p:=⟨b,o,none⟩) hb
  clear hK K
  (try simp only[Act.put,List.setIfInBounds_toArray,List.set_cons_zero,List.set_cons_succ])
  (refine ot rfl (fun K hK=> ?_);go_simp;refine hK.out _ _ ?_ ?_)
  ·intro b o hb;exact(show Below w4.heap.size w4 _ from bc).cell (p:=⟨b,o,none⟩) hb
  clear hK K
  (try simp only[Act.put,List.setIfInBounds_toArray,List.set_cons_zero,List.set_cons_succ])
  refine ot rfl (fun K hK=> ?_);go_simp;refine(WX _ _ _ (IL w4 _ _).1 (IL w4 _ _).2).mono ?_;rintro e w5 ⟨rfl,kM⟩;have lB:Below w4.heap.size w4 w5:=Below.then (w:=w4) bc kM;refine hK.out _ _ (fun b o hb=>lB.cell (p:=⟨b,o,none⟩) hb) ?_;have IH:=lB.size;clear hK K
  (try simp only[Act.put,List.setIfInBounds_toArray,List.set_cons_zero,List.set_cons_succ])
  iterate 4 refine HR ?_
  refine Lj ?_ ?_
  ·(refine ot rfl (fun K hK=> ?_);go_simp;refine hK.out _ _ ?_ ?_)
   ·intro b o hb;exact(show Below w4.heap.size w4 _ from lB.trans ((show Below w5.heap.size w5 _ from bc).mono aa)).cell (p:=⟨b,o,none⟩) hb
   clear hK K
   (try simp only[Act.put,List.setIfInBounds_toArray,List.set_cons_zero,List.set_cons_succ])
   (refine ot rfl (fun K hK=> ?_);go_simp;refine hK.out _ _ ?_ ?_)
   ·intro b o hb;exact(show Below w4.heap.size w4 _ from lB.trans ((show Below w5.heap.size w5 _ from bc).mono aa)).cell (p:=⟨b,o,none⟩) hb
   clear hK K
   (try simp only[Act.put,List.setIfInBounds_toArray,List.set_cons_zero,List.set_cons_succ])
   refine HQ ?_;go_wp2_with fail;refine(IM _ _ _ (yk w5 _ _).1 (yk w5 _ _).2).mono ?_;rintro e w6 ⟨rfl,lz⟩;have oA:Below w.heap.size w w6:=(yl.trans (lB.mono yl.size)).trans ((Below.then (w:=w5) bc lz).mono aa);go_wp2_with fail;refine NoPanic.normal ?_;go_wp2_with fail;go_ret;exact⟨rfl,oA⟩
  ·(refine ot rfl (fun K hK=> ?_);go_simp;refine hK.out _ _ ?_ ?_)
   ·intro b o hb;exact(show Below w4.heap.size w4 _ from lB.trans ((show Below w5.heap.size w5 _ from bc).mono aa)).cell (p:=⟨b,o,none⟩) hb
   clear hK K
   (try simp only[Act.put,List.setIfInBounds_toArray,List.set_cons_zero,List.set_cons_succ])
   (refine ot rfl (fun K hK=> ?_);go_simp;refine hK.out _ _ ?_ ?_)
   ·intro b o hb;exact(show Below w4.heap.size w4 _ from lB.trans ((show Below w5.heap.size w5 _ from bc).mono aa)).cell (p:=⟨b,o,none⟩) hb
   clear hK K
   (try simp only[Act.put,List.setIfInBounds_toArray,List.set_cons_zero,List.set_cons_succ])
   refine HQ ?_;go_wp2_with fail;refine(IM _ _ _ (yk w5 _ _).2 (yk w5 _ _).1).mono ?_;rintro e w6 ⟨rfl,lz⟩;have oA:Below w.heap.size w w6:=(yl.trans (lB.mono yl.size)).trans ((Below.then (w:=w5) bc lz).mono aa);go_wp2_with fail;refine NoPanic.normal ?_;go_wp2_with fail;go_ret;exact⟨rfl,oA⟩
 ·(refine ot rfl (fun K hK=> ?_);go_simp;refine hK.out _ _ ?_ ?_)
  ·intro b o hb;exact(show Below w4.heap.size w4 _ from bc).cell (p:=⟨b,o,none⟩) hb
  clear hK K
  (try simp only[Act.put,List.setIfInBounds_toArray,List.set_cons_zero,List.set_cons_succ])
  (refine ot rfl (fun K hK=> ?_);go_simp;refine hK.out _ _ ?_ ?_)
  ·intro b o hb;exact(show Below w4.heap.size w4 _ from bc).cell (p:=⟨b,o,none⟩) hb
  clear hK K
  (try simp only[Act.put,List.setIfInBounds_toArray,List.set_cons_zero,List.set_cons_succ])
  refine ot rfl (fun K hK=> ?_);go_simp;refine(WX _ _ _ (IL w4 _ _).2 (IL w4 _ _).1).mono ?_;rintro e w5 ⟨rfl,kM⟩;have lB:Below w4.heap.size w4 w5:=Below.then (w:=w4) bc kM;refine hK.out _ _ (fun b o hb=>lB.cell (p:=⟨b,o,none⟩) hb) ?_;have IH:=lB.size;clear hK K
  (try simp only[Act.put,List.setIfInBounds_toArray,List.set_cons_zero,List.set_cons_succ])
  iterate 4 refine HR ?_
  refine Lj ?_ ?_
  ·(refine ot rfl (fun K hK=> ?_);go_simp;refine hK.out _ _ ?_ ?_)
   ·intro b o hb;exact(show Below w4.heap.size w4 _ from lB.trans ((show Below w5.heap.size w5 _ from bc).mono aa)).cell (p:=⟨b,o,none⟩) hb
   clear hK K
   (try simp only[Act.put,List.setIfInBounds_toArray,List.set_cons_zero,List.set_cons_succ])
   (refine ot rfl (fun K hK=> ?_);go_simp;refine hK.out _ _ ?_ ?_)
   ·intro b o hb;exact(show Below w4.heap.size w4 _ from lB.trans ((show Below w5.heap.size w5 _ from bc).mono aa)).cell (p:=⟨b,o,none⟩) hb
   clear hK K
   (try simp only[Act.put,List.setIfInBounds_toArray,List.set_cons_zero,List.set_cons_succ])
   refine HQ ?_;go_wp2_with fail;refine(IM _ _ _ (yk w5 _ _).1 (yk w5 _ _).2).mono ?_;rintro e w6 ⟨rfl,lz⟩;have oA:Below w.heap.size w w6:=(yl.trans (lB.mono yl.size)).trans ((Below.then (w:=w5) bc lz).mono aa);go_wp2_with fail;refine NoPanic.normal ?_;go_wp2_with fail;go_ret;exact⟨rfl,oA⟩
  ·(refine ot rfl (fun K hK=> ?_);go_simp;refine hK.out _ _ ?_ ?_)
   ·intro b o hb;exact(show Below w4.heap.size w4 _ from lB.trans ((show Below w5.heap.size w5 _ from bc).mono aa)).cell (p:=⟨b,o,none⟩) hb
   clear hK K
   (try simp only[Act.put,List.setIfInBounds_toArray,List.set_cons_zero,List.set_cons_succ])
   (refine ot rfl (fun K hK=> ?_);go_simp;refine hK.out _ _ ?_ ?_)
   ·intro b o hb;exact(show Below w4.heap.size w4 _ from lB.trans ((show Below w5.heap.size w5 _ from bc).mono aa)).cell (p:=⟨b,o,none⟩) hb
   clear hK K
   (try simp only[Act.put,List.setIfInBounds_toArray,List.set_cons_zero,List.set_cons_succ])
   refine HQ ?_;go_wp2_with fail;refine(IM _ _ _ (yk w5 _ _).2 (yk w5 _ _).1).mono ?_;rintro e w6 ⟨rfl,lz⟩;have oA:Below w.heap.size w w6:=(yl.trans (lB.mono yl.size)).trans ((Below.then (w:=w5) bc lz).mono aa);go_wp2_with fail;refine NoPanic.normal ?_;go_wp2_with fail;go_ret;exact⟨rfl,oA⟩
end
section
open Go.RowKit
theorem IP {w:World}{a:Option Addr}{len cap:Nat}{zs:List Int}(h:(a=none/\len=0/\cap=0/\zs=[])\/
  ∃x,a=some x/\len<=cap/\cap<=maxLen/\zs.length=cap/\(∀i,i<zs.length->w.cell? (x.add i)=some (.int .i64 (zs.getD i 0)))/\∀n∈zs,(Lit.int .i64 n).wf=true):
  ∃l:List Int,dZ w (.slice a len cap) l/\∀x∈l,yj x:=by
 rcases h with⟨rfl,rfl,rfl,rfl⟩|⟨x,rfl,h1,h2,h3,h4,h5⟩
 ·exact⟨[],Flat.nil _ _ _ _,fun x hx=>by simp at hx⟩
 ·refine⟨zs.take len,?_,fun y hy=>bounds_i64 (h5 y (vP hy))⟩
  have hlen:(zs.take len).length=len:=by rw[eo];omega
  unfold dZ;by_cases hz:0<zs.length
  ·obtain⟨b,off,rfl,hc⟩:=ints_at h4 hz;unfold maxLen at h2
   have:=Flat.Bs (w:=w) (k:=1) (n:=len) (c:=cap) (b:=b) (o:=off) (xs:=iv (zs.take len)) (by rw[iv,List.length_map,hlen,Nat.mul_one]) aa (fun j u hu=>by
    have hj:j<len:=by have:=(bk.1 hu).1;simp[iv] at this;omega
    rw[hc j aa,<-hu];have hjz:j<zs.length:=aa
    simp[iv,hj,hjz])
   rw[hlen];exact this
  ·have h0:zs=[]:=Hi.1 aa;subst h0
   have:len=0:=by simp at h3;omega
   subst this;exact Flat.nil _ _ _ _
end
namespace Ab
open Go Go.RowKit
def aeY:aF:=⟨0,[3,33],[],[],aR,[(5,[1,3])],[(7,[(5,1,901,3,1),(5,3,902,52,4)])]⟩
def aeZ:aI:=[(27,20,(.take 0 (.take 1 (.take 2 (.take 3 (.take 4 (.take 6 (.take 7 (.take 8 (.take 11 (.take 12 (.take 13 (.take 14 (.take 15 (.take 16 (.take 17 (.move 5 (.take 9 (.move 10 (.take 18 (.move 19 .nil)))))))))))))))))))),[]),(16,14,(.take 0 (.take 1 (.take 2 (.take 3 (.take 4 (.take 5 (.take 6 (.take 7 (.take 8 (.take 9 (.take 10 (.take 11 (.take 12 (.move 13 .nil)))))))))))))),[]),(18,7,(.take 0 (.take 1 (.take 2 (.take 3 (.take 4 (.take 5 (.take 6 .nil))))))),[])]
noncomputable def arx:aA:=aT Tryz.prog aeY 160 aeZ (Tryz.f4.body.getD .skip)
theorem afa:aD Tryz.prog aeY 160 aeZ (Tryz.f4.body.getD .skip)=some arx:=aV rfl ah
end Ab
end Go.Proofs.YtlnghiefahcnpaaGreat
